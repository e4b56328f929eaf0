/-
  Walks and laws of the layers below, gathered from several texts.
-/
import Derived.WalkKit
import Derived.WalkSpells
import Derived.IntWalk
import Derived.Lib.Hide
import Derived.BigQuiet
import Derived.Deep.QuietTactic
import Derived.Deep.Cut
import Derived.Deep.RegionHeld3
import Derived.Test.YtidelghgjibndaaGreatShelf
import Derived.LoopTactic
import Derived.Laws.Bits64b
import Derived.Laws.Bits64
import Derived.Test.YtidelghgjibndaaGreatFixPlain
import Derived.Test.YtidelghgjibndaaGreatM7t1
namespace Go.Proofs.YtidelghgjibndaaGreat
set_option linter.unusedVariables false
open Go.RowKit
/-- the cells of block b hold these values, and may be written -/
structure Blk (vs : List Value) (b : Nat) (W : World) : Prop where
  lt : b < W.heap.size
  c : ∀ i v, vs[i]? = some v → W.cell? ⟨b, i, none⟩ = some v
  f : ∀ i v, vs[i]? = some v → W.frozen? ⟨b, i, none⟩ = false
theorem Blk.below {vs : List Value} {b : Nat} {W w' : World} (h : Blk vs b W) (hb : Below W.heap.size W w') : Blk vs b w' :=
  ⟨Nat.lt_of_lt_of_le h.lt hb.size, fun i v e => (hb.cell (p := ⟨b, i, none⟩) h.lt).trans (h.c i v e), fun i v e => (hb.frozen (p := ⟨b, i, none⟩) h.lt).trans (h.f i v e)⟩
theorem Blk.same {vs : List Value} {b : Nat} {W w' : World} (h : Blk vs b W) (hk : w'.heap[b]? = W.heap[b]?) (hs : W.heap.size ≤ w'.heap.size) : Blk vs b w' :=
  ⟨Nat.lt_of_lt_of_le h.lt hs, fun i v e => (World.cell?_of_block (w := W) (a := ⟨b, i, none⟩) hk).trans (h.c i v e), fun i v e => (World.frozen?_of_block (w := W) (a := ⟨b, i, none⟩) hk).trans (h.f i v e)⟩
theorem Blk.alloc {vs : List Value} {b : Nat} {W : World} (h : Blk vs b W) (o : Obj) : Blk vs b (W.alloc o) := h.below ((Below.refl _ _).alloc (Nat.le_refl _) o)
theorem Blk.new (vs : Array Value) (w : World) (t : TypeId) : Blk vs.toList w.heap.size (w.alloc (.cells vs t)) :=
  ⟨by simp, fun i v e => by
      rw [World.cell?_alloc_at _ _ _ _ rfl]
      simpa using e, fun i v e => by go_simp⟩
theorem Blk.of {vs : Array Value} {b : Nat} {w : World} {t : TypeId} (e : b = w.heap.size) : Blk vs.toList b (w.alloc (.cells vs t)) := by subst e; exact Blk.new vs w t
theorem blk_other {vs : List Value} {b n j : Nat} {W : World} (h : Blk vs b W) (hn : n ≠ b) (u : Value) : Blk vs b (W.setCell ⟨n, j, none⟩ u) :=
  h.same (Below.heap_setCell _ _ _ _ (Ne.symm hn)) (by simp [World.setCell])
theorem blk_set {vs : List Value} {b j : Nat} {W : World} (h : Blk vs b W) (hj : j < vs.length) (u : Value) : Blk (vs.set j u) b (W.setCell ⟨b, j, none⟩ u) := by
  refine ⟨by have := h.lt; simpa [World.setCell] using this, fun i v e => ?_, fun i v e => ?_⟩
  · by_cases q : i = j
    · subst q
      rw [List.getElem?_set_self hj] at e
      cases e
      exact World.cell?_setCell_same' W _ _ (by rw [h.c i _ (List.getElem?_eq_getElem hj)]; rfl)
    · rw [List.getElem?_set_ne (fun e => q e.symm)] at e
      rw [World.cell?_setCell_other]
      · exact h.c i v e
      · intro e'; injection e' with _ e' _; exact q e'.symm
  · rw [World.frozen?_setCell]
    by_cases q : i = j
    · subst q
      exact h.f i _ (List.getElem?_eq_getElem hj)
    · rw [List.getElem?_set_ne (fun e => q e.symm)] at e
      exact h.f i v e
/-- a new block of a region whose order is drawn: laid before a call, kept by later ones, written at last -/
theorem kv_new {w W w9 : World} {vs : Array Value} {t : TypeId} (h : Below w.heap.size w W) (hc : Below (W.alloc (.cells vs t)).heap.size (W.alloc (.cells vs t)) w9) :
    w.heap.size ≤ W.heap.size ∧ Blk vs.toList W.heap.size w9 := ⟨h.size, (Blk.new vs W t).below hc⟩
theorem kv_old {w W w9 : World} {vs : List Value} {b : Nat} (h : w.heap.size ≤ b ∧ Blk vs b W) (hc : Below W.heap.size W w9) : w.heap.size ≤ b ∧ Blk vs b w9 := ⟨h.1, h.2.below hc⟩
theorem far2 {m b c : Nat} {W : World} (h : m ≤ c) (hb : b < m) (u v : Value) (i : Nat) : ((W.setCell ⟨c, 0, none⟩ u).setCell ⟨c, 1, none⟩ v).cell? ⟨b, i, none⟩ = W.cell? ⟨b, i, none⟩ :=
  have hne : c ≠ b := by omega
  (World.cell?_setCell_far _ _ _ _ hne).trans (World.cell?_setCell_far _ _ _ _ hne)
theorem below_drew_alloc (w : World) (o : Obj) : Below w.heap.size w (w.alloc o).drew :=
  have h := (Below.refl w.heap.size w).alloc (Nat.le_refl _) o
  ⟨h.os, h.tape, h.output, h.size, h.block⟩
theorem kv_drew {w w9 : World} {vs : Array Value} {t : TypeId} (hc : Below (w.alloc (.cells vs t)).drew.heap.size (w.alloc (.cells vs t)).drew w9) :
    w.heap.size ≤ w.heap.size ∧ Blk vs.toList w.heap.size w9 :=
  ⟨Nat.le_refl _, ((Blk.new vs w t).same (w' := (w.alloc (.cells vs t)).drew) rfl (Nat.le_refl _)).below hc⟩
theorem hT {a w w' : World} (h : Hid (Below a.heap.size a w)) (hb : Below w.heap.size w w') : Hid (Below a.heap.size a w') := Lib.hid (h.out.trans (hb.mono h.out.size))
theorem hK {vs : List Value} {b : Nat} {w w' : World} (h : Hid (Blk vs b w)) (hb : Below w.heap.size w w') : Hid (Blk vs b w') := Lib.hid (h.out.below hb)
theorem alB (w : World) (a : Array Value) (t : TypeId) : Hid (Blk a.toList w.heap.size (w.alloc (.cells a t))) ∧ Below w.heap.size w (w.alloc (.cells a t)) := ⟨Lib.hid (Blk.of rfl), (Below.refl _ _).alloc (Nat.le_refl _) _⟩
/-- nothing but block n has changed -/
structure Oth (n : Nat) (W W' : World) : Prop where
  blk : ∀ vs b, n ≠ b → Blk vs b W → Blk vs b W'
  bel : ∀ B w0, B ≤ n → Below B w0 W → Below B w0 W'
theorem Oth.refl (n : Nat) (W : World) : Oth n W W := ⟨fun _ _ _ h => h, fun _ _ _ h => h⟩
theorem Oth.set {n : Nat} {W W' : World} (h : Oth n W W') (j : Nat) (u : Value) : Oth n W (W'.setCell ⟨n, j, none⟩ u) := ⟨fun vs b hn k => blk_other (h.blk vs b hn k) hn u, fun B w0 hB k => (h.bel B w0 hB k).setCell (p := ⟨n, j, none⟩) hB u⟩
theorem oB {n : Nat} {W W' : World} {vs : List Value} {b : Nat} (h : Oth n W W') (k : Hid (Blk vs b W)) (hn : n ≠ b) : Hid (Blk vs b W') := Lib.hid (h.blk vs b hn k.out)
theorem oH {n B : Nat} {w0 W W' : World} (h : Oth n W W') (k : Hid (Below B w0 W)) (hB : B ≤ n) : Hid (Below B w0 W') := Lib.hid (h.bel B w0 hB k.out)
theorem st1 (W : World) (n : Nat) (j0 : Nat) (u0 : Value) : Oth n W (W.setCell ⟨n, j0, none⟩ u0) := ((Oth.refl n W).set j0 u0)
theorem st2 (W : World) (n : Nat) (j0 : Nat) (u0 : Value) (j1 : Nat) (u1 : Value) : Oth n W ((W.setCell ⟨n, j0, none⟩ u0).setCell ⟨n, j1, none⟩ u1) := (((Oth.refl n W).set j0 u0).set j1 u1)
theorem st4 (W : World) (n : Nat) (j0 : Nat) (u0 : Value) (j1 : Nat) (u1 : Value) (j2 : Nat) (u2 : Value) (j3 : Nat) (u3 : Value) : Oth n W ((((W.setCell ⟨n, j0, none⟩ u0).setCell ⟨n, j1, none⟩ u1).setCell ⟨n, j2, none⟩ u2).setCell ⟨n, j3, none⟩ u3) := (((((Oth.refl n W).set j0 u0).set j1 u1).set j2 u2).set j3 u3)
theorem st5 (W : World) (n : Nat) (j0 : Nat) (u0 : Value) (j1 : Nat) (u1 : Value) (j2 : Nat) (u2 : Value) (j3 : Nat) (u3 : Value) (j4 : Nat) (u4 : Value) : Oth n W (((((W.setCell ⟨n, j0, none⟩ u0).setCell ⟨n, j1, none⟩ u1).setCell ⟨n, j2, none⟩ u2).setCell ⟨n, j3, none⟩ u3).setCell ⟨n, j4, none⟩ u4) := ((((((Oth.refl n W).set j0 u0).set j1 u1).set j2 u2).set j3 u3).set j4 u4)
theorem st6 (W : World) (n : Nat) (j0 : Nat) (u0 : Value) (j1 : Nat) (u1 : Value) (j2 : Nat) (u2 : Value) (j3 : Nat) (u3 : Value) (j4 : Nat) (u4 : Value) (j5 : Nat) (u5 : Value) : Oth n W ((((((W.setCell ⟨n, j0, none⟩ u0).setCell ⟨n, j1, none⟩ u1).setCell ⟨n, j2, none⟩ u2).setCell ⟨n, j3, none⟩ u3).setCell ⟨n, j4, none⟩ u4).setCell ⟨n, j5, none⟩ u5) := (((((((Oth.refl n W).set j0 u0).set j1 u1).set j2 u2).set j3 u3).set j4 u4).set j5 u5)
theorem st7 (W : World) (n : Nat) (j0 : Nat) (u0 : Value) (j1 : Nat) (u1 : Value) (j2 : Nat) (u2 : Value) (j3 : Nat) (u3 : Value) (j4 : Nat) (u4 : Value) (j5 : Nat) (u5 : Value) (j6 : Nat) (u6 : Value) : Oth n W (((((((W.setCell ⟨n, j0, none⟩ u0).setCell ⟨n, j1, none⟩ u1).setCell ⟨n, j2, none⟩ u2).setCell ⟨n, j3, none⟩ u3).setCell ⟨n, j4, none⟩ u4).setCell ⟨n, j5, none⟩ u5).setCell ⟨n, j6, none⟩ u6) := ((((((((Oth.refl n W).set j0 u0).set j1 u1).set j2 u2).set j3 u3).set j4 u4).set j5 u5).set j6 u6)
theorem st9 (W : World) (n : Nat) (j0 : Nat) (u0 : Value) (j1 : Nat) (u1 : Value) (j2 : Nat) (u2 : Value) (j3 : Nat) (u3 : Value) (j4 : Nat) (u4 : Value) (j5 : Nat) (u5 : Value) (j6 : Nat) (u6 : Value) (j7 : Nat) (u7 : Value) (j8 : Nat) (u8 : Value) : Oth n W (((((((((W.setCell ⟨n, j0, none⟩ u0).setCell ⟨n, j1, none⟩ u1).setCell ⟨n, j2, none⟩ u2).setCell ⟨n, j3, none⟩ u3).setCell ⟨n, j4, none⟩ u4).setCell ⟨n, j5, none⟩ u5).setCell ⟨n, j6, none⟩ u6).setCell ⟨n, j7, none⟩ u7).setCell ⟨n, j8, none⟩ u8) := ((((((((((Oth.refl n W).set j0 u0).set j1 u1).set j2 u2).set j3 u3).set j4 u4).set j5 u5).set j6 u6).set j7 u7).set j8 u8)
theorem blk2 {v0 v1 : Value} {b : Nat} {W : World} (h : Hid (Blk [v0, v1] b W)) : W.cell? ⟨b, 0, none⟩ = some v0 ∧ W.cell? ⟨b, 1, none⟩ = some v1 ∧ b < W.heap.size := ⟨h.out.c 0 _ rfl, h.out.c 1 _ rfl, h.out.lt⟩
theorem blf2 {v0 v1 : Value} {b : Nat} {W : World} (h : Hid (Blk [v0, v1] b W)) : W.cell? ⟨b, 0, none⟩ = some v0 ∧ W.cell? ⟨b, 1, none⟩ = some v1 ∧ b < W.heap.size ∧ W.frozen? ⟨b, 0, none⟩ = false ∧ W.frozen? ⟨b, 1, none⟩ = false := ⟨h.out.c 0 _ rfl, h.out.c 1 _ rfl, h.out.lt, h.out.f 0 _ rfl, h.out.f 1 _ rfl⟩
theorem blk4 {v0 v1 v2 v3 : Value} {b : Nat} {W : World} (h : Hid (Blk [v0, v1, v2, v3] b W)) : W.cell? ⟨b, 0, none⟩ = some v0 ∧ W.cell? ⟨b, 1, none⟩ = some v1 ∧ W.cell? ⟨b, 2, none⟩ = some v2 ∧ W.cell? ⟨b, 3, none⟩ = some v3 ∧ b < W.heap.size := ⟨h.out.c 0 _ rfl, h.out.c 1 _ rfl, h.out.c 2 _ rfl, h.out.c 3 _ rfl, h.out.lt⟩
theorem blf4 {v0 v1 v2 v3 : Value} {b : Nat} {W : World} (h : Hid (Blk [v0, v1, v2, v3] b W)) : W.cell? ⟨b, 0, none⟩ = some v0 ∧ W.cell? ⟨b, 1, none⟩ = some v1 ∧ W.cell? ⟨b, 2, none⟩ = some v2 ∧ W.cell? ⟨b, 3, none⟩ = some v3 ∧ b < W.heap.size ∧ W.frozen? ⟨b, 0, none⟩ = false ∧ W.frozen? ⟨b, 1, none⟩ = false ∧ W.frozen? ⟨b, 2, none⟩ = false ∧ W.frozen? ⟨b, 3, none⟩ = false := ⟨h.out.c 0 _ rfl, h.out.c 1 _ rfl, h.out.c 2 _ rfl, h.out.c 3 _ rfl, h.out.lt, h.out.f 0 _ rfl, h.out.f 1 _ rfl, h.out.f 2 _ rfl, h.out.f 3 _ rfl⟩
theorem blk5 {v0 v1 v2 v3 v4 : Value} {b : Nat} {W : World} (h : Hid (Blk [v0, v1, v2, v3, v4] b W)) : W.cell? ⟨b, 0, none⟩ = some v0 ∧ W.cell? ⟨b, 1, none⟩ = some v1 ∧ W.cell? ⟨b, 2, none⟩ = some v2 ∧ W.cell? ⟨b, 3, none⟩ = some v3 ∧ W.cell? ⟨b, 4, none⟩ = some v4 ∧ b < W.heap.size := ⟨h.out.c 0 _ rfl, h.out.c 1 _ rfl, h.out.c 2 _ rfl, h.out.c 3 _ rfl, h.out.c 4 _ rfl, h.out.lt⟩
theorem blf5 {v0 v1 v2 v3 v4 : Value} {b : Nat} {W : World} (h : Hid (Blk [v0, v1, v2, v3, v4] b W)) : W.cell? ⟨b, 0, none⟩ = some v0 ∧ W.cell? ⟨b, 1, none⟩ = some v1 ∧ W.cell? ⟨b, 2, none⟩ = some v2 ∧ W.cell? ⟨b, 3, none⟩ = some v3 ∧ W.cell? ⟨b, 4, none⟩ = some v4 ∧ b < W.heap.size ∧ W.frozen? ⟨b, 0, none⟩ = false ∧ W.frozen? ⟨b, 1, none⟩ = false ∧ W.frozen? ⟨b, 2, none⟩ = false ∧ W.frozen? ⟨b, 3, none⟩ = false ∧ W.frozen? ⟨b, 4, none⟩ = false := ⟨h.out.c 0 _ rfl, h.out.c 1 _ rfl, h.out.c 2 _ rfl, h.out.c 3 _ rfl, h.out.c 4 _ rfl, h.out.lt, h.out.f 0 _ rfl, h.out.f 1 _ rfl, h.out.f 2 _ rfl, h.out.f 3 _ rfl, h.out.f 4 _ rfl⟩
theorem blk6 {v0 v1 v2 v3 v4 v5 : Value} {b : Nat} {W : World} (h : Hid (Blk [v0, v1, v2, v3, v4, v5] b W)) : W.cell? ⟨b, 0, none⟩ = some v0 ∧ W.cell? ⟨b, 1, none⟩ = some v1 ∧ W.cell? ⟨b, 2, none⟩ = some v2 ∧ W.cell? ⟨b, 3, none⟩ = some v3 ∧ W.cell? ⟨b, 4, none⟩ = some v4 ∧ W.cell? ⟨b, 5, none⟩ = some v5 ∧ b < W.heap.size := ⟨h.out.c 0 _ rfl, h.out.c 1 _ rfl, h.out.c 2 _ rfl, h.out.c 3 _ rfl, h.out.c 4 _ rfl, h.out.c 5 _ rfl, h.out.lt⟩
theorem blf6 {v0 v1 v2 v3 v4 v5 : Value} {b : Nat} {W : World} (h : Hid (Blk [v0, v1, v2, v3, v4, v5] b W)) : W.cell? ⟨b, 0, none⟩ = some v0 ∧ W.cell? ⟨b, 1, none⟩ = some v1 ∧ W.cell? ⟨b, 2, none⟩ = some v2 ∧ W.cell? ⟨b, 3, none⟩ = some v3 ∧ W.cell? ⟨b, 4, none⟩ = some v4 ∧ W.cell? ⟨b, 5, none⟩ = some v5 ∧ b < W.heap.size ∧ W.frozen? ⟨b, 0, none⟩ = false ∧ W.frozen? ⟨b, 1, none⟩ = false ∧ W.frozen? ⟨b, 2, none⟩ = false ∧ W.frozen? ⟨b, 3, none⟩ = false ∧ W.frozen? ⟨b, 4, none⟩ = false ∧ W.frozen? ⟨b, 5, none⟩ = false := ⟨h.out.c 0 _ rfl, h.out.c 1 _ rfl, h.out.c 2 _ rfl, h.out.c 3 _ rfl, h.out.c 4 _ rfl, h.out.c 5 _ rfl, h.out.lt, h.out.f 0 _ rfl, h.out.f 1 _ rfl, h.out.f 2 _ rfl, h.out.f 3 _ rfl, h.out.f 4 _ rfl, h.out.f 5 _ rfl⟩
theorem blk7 {v0 v1 v2 v3 v4 v5 v6 : Value} {b : Nat} {W : World} (h : Hid (Blk [v0, v1, v2, v3, v4, v5, v6] b W)) : W.cell? ⟨b, 0, none⟩ = some v0 ∧ W.cell? ⟨b, 1, none⟩ = some v1 ∧ W.cell? ⟨b, 2, none⟩ = some v2 ∧ W.cell? ⟨b, 3, none⟩ = some v3 ∧ W.cell? ⟨b, 4, none⟩ = some v4 ∧ W.cell? ⟨b, 5, none⟩ = some v5 ∧ W.cell? ⟨b, 6, none⟩ = some v6 ∧ b < W.heap.size := ⟨h.out.c 0 _ rfl, h.out.c 1 _ rfl, h.out.c 2 _ rfl, h.out.c 3 _ rfl, h.out.c 4 _ rfl, h.out.c 5 _ rfl, h.out.c 6 _ rfl, h.out.lt⟩
theorem blf7 {v0 v1 v2 v3 v4 v5 v6 : Value} {b : Nat} {W : World} (h : Hid (Blk [v0, v1, v2, v3, v4, v5, v6] b W)) : W.cell? ⟨b, 0, none⟩ = some v0 ∧ W.cell? ⟨b, 1, none⟩ = some v1 ∧ W.cell? ⟨b, 2, none⟩ = some v2 ∧ W.cell? ⟨b, 3, none⟩ = some v3 ∧ W.cell? ⟨b, 4, none⟩ = some v4 ∧ W.cell? ⟨b, 5, none⟩ = some v5 ∧ W.cell? ⟨b, 6, none⟩ = some v6 ∧ b < W.heap.size ∧ W.frozen? ⟨b, 0, none⟩ = false ∧ W.frozen? ⟨b, 1, none⟩ = false ∧ W.frozen? ⟨b, 2, none⟩ = false ∧ W.frozen? ⟨b, 3, none⟩ = false ∧ W.frozen? ⟨b, 4, none⟩ = false ∧ W.frozen? ⟨b, 5, none⟩ = false ∧ W.frozen? ⟨b, 6, none⟩ = false := ⟨h.out.c 0 _ rfl, h.out.c 1 _ rfl, h.out.c 2 _ rfl, h.out.c 3 _ rfl, h.out.c 4 _ rfl, h.out.c 5 _ rfl, h.out.c 6 _ rfl, h.out.lt, h.out.f 0 _ rfl, h.out.f 1 _ rfl, h.out.f 2 _ rfl, h.out.f 3 _ rfl, h.out.f 4 _ rfl, h.out.f 5 _ rfl, h.out.f 6 _ rfl⟩
theorem blk8 {v0 v1 v2 v3 v4 v5 v6 v7 : Value} {b : Nat} {W : World} (h : Hid (Blk [v0, v1, v2, v3, v4, v5, v6, v7] b W)) : W.cell? ⟨b, 0, none⟩ = some v0 ∧ W.cell? ⟨b, 1, none⟩ = some v1 ∧ W.cell? ⟨b, 2, none⟩ = some v2 ∧ W.cell? ⟨b, 3, none⟩ = some v3 ∧ W.cell? ⟨b, 4, none⟩ = some v4 ∧ W.cell? ⟨b, 5, none⟩ = some v5 ∧ W.cell? ⟨b, 6, none⟩ = some v6 ∧ W.cell? ⟨b, 7, none⟩ = some v7 ∧ b < W.heap.size := ⟨h.out.c 0 _ rfl, h.out.c 1 _ rfl, h.out.c 2 _ rfl, h.out.c 3 _ rfl, h.out.c 4 _ rfl, h.out.c 5 _ rfl, h.out.c 6 _ rfl, h.out.c 7 _ rfl, h.out.lt⟩
theorem blk9 {v0 v1 v2 v3 v4 v5 v6 v7 v8 : Value} {b : Nat} {W : World} (h : Hid (Blk [v0, v1, v2, v3, v4, v5, v6, v7, v8] b W)) : W.cell? ⟨b, 0, none⟩ = some v0 ∧ W.cell? ⟨b, 1, none⟩ = some v1 ∧ W.cell? ⟨b, 2, none⟩ = some v2 ∧ W.cell? ⟨b, 3, none⟩ = some v3 ∧ W.cell? ⟨b, 4, none⟩ = some v4 ∧ W.cell? ⟨b, 5, none⟩ = some v5 ∧ W.cell? ⟨b, 6, none⟩ = some v6 ∧ W.cell? ⟨b, 7, none⟩ = some v7 ∧ W.cell? ⟨b, 8, none⟩ = some v8 ∧ b < W.heap.size := ⟨h.out.c 0 _ rfl, h.out.c 1 _ rfl, h.out.c 2 _ rfl, h.out.c 3 _ rfl, h.out.c 4 _ rfl, h.out.c 5 _ rfl, h.out.c 6 _ rfl, h.out.c 7 _ rfl, h.out.c 8 _ rfl, h.out.lt⟩
theorem blf9 {v0 v1 v2 v3 v4 v5 v6 v7 v8 : Value} {b : Nat} {W : World} (h : Hid (Blk [v0, v1, v2, v3, v4, v5, v6, v7, v8] b W)) : W.cell? ⟨b, 0, none⟩ = some v0 ∧ W.cell? ⟨b, 1, none⟩ = some v1 ∧ W.cell? ⟨b, 2, none⟩ = some v2 ∧ W.cell? ⟨b, 3, none⟩ = some v3 ∧ W.cell? ⟨b, 4, none⟩ = some v4 ∧ W.cell? ⟨b, 5, none⟩ = some v5 ∧ W.cell? ⟨b, 6, none⟩ = some v6 ∧ W.cell? ⟨b, 7, none⟩ = some v7 ∧ W.cell? ⟨b, 8, none⟩ = some v8 ∧ b < W.heap.size ∧ W.frozen? ⟨b, 0, none⟩ = false ∧ W.frozen? ⟨b, 1, none⟩ = false ∧ W.frozen? ⟨b, 2, none⟩ = false ∧ W.frozen? ⟨b, 3, none⟩ = false ∧ W.frozen? ⟨b, 4, none⟩ = false ∧ W.frozen? ⟨b, 5, none⟩ = false ∧ W.frozen? ⟨b, 6, none⟩ = false ∧ W.frozen? ⟨b, 7, none⟩ = false ∧ W.frozen? ⟨b, 8, none⟩ = false := ⟨h.out.c 0 _ rfl, h.out.c 1 _ rfl, h.out.c 2 _ rfl, h.out.c 3 _ rfl, h.out.c 4 _ rfl, h.out.c 5 _ rfl, h.out.c 6 _ rfl, h.out.c 7 _ rfl, h.out.c 8 _ rfl, h.out.lt, h.out.f 0 _ rfl, h.out.f 1 _ rfl, h.out.f 2 _ rfl, h.out.f 3 _ rfl, h.out.f 4 _ rfl, h.out.f 5 _ rfl, h.out.f 6 _ rfl, h.out.f 7 _ rfl, h.out.f 8 _ rfl⟩
theorem ent1 (w : World) (a0 : Array Value) (t0 : TypeId) : Hid (Blk a0.toList (w.heap.size) (w.alloc (.cells a0 t0))) ∧ Hid (Below w.heap.size w (w.alloc (.cells a0 t0))) := ⟨Lib.hid (Blk.of (vs := a0) (t := t0) (w := w) (b := w.heap.size) (by simp)), Lib.hid ((Below.refl w.heap.size w).alloc (by simp; try omega) (.cells a0 t0))⟩
theorem ent2 (w : World) (a0 : Array Value) (t0 : TypeId) (a1 : Array Value) (t1 : TypeId) : Hid (Blk a0.toList (w.heap.size) ((w.alloc (.cells a0 t0)).alloc (.cells a1 t1))) ∧ Hid (Blk a1.toList (w.heap.size + 1) ((w.alloc (.cells a0 t0)).alloc (.cells a1 t1))) ∧ Hid (Below w.heap.size w ((w.alloc (.cells a0 t0)).alloc (.cells a1 t1))) := ⟨Lib.hid ((Blk.of (vs := a0) (t := t0) (w := w) (b := w.heap.size) (by simp)).alloc (.cells a1 t1)), Lib.hid (Blk.of (vs := a1) (t := t1) (w := (w.alloc (.cells a0 t0))) (b := w.heap.size + 1) (by simp)), Lib.hid (((Below.refl w.heap.size w).alloc (by simp; try omega) (.cells a0 t0)).alloc (by simp; try omega) (.cells a1 t1))⟩
theorem ent3 (w : World) (a0 : Array Value) (t0 : TypeId) (a1 : Array Value) (t1 : TypeId) (a2 : Array Value) (t2 : TypeId) : Hid (Blk a0.toList (w.heap.size) (((w.alloc (.cells a0 t0)).alloc (.cells a1 t1)).alloc (.cells a2 t2))) ∧ Hid (Blk a1.toList (w.heap.size + 1) (((w.alloc (.cells a0 t0)).alloc (.cells a1 t1)).alloc (.cells a2 t2))) ∧ Hid (Blk a2.toList (w.heap.size + 1 + 1) (((w.alloc (.cells a0 t0)).alloc (.cells a1 t1)).alloc (.cells a2 t2))) ∧ Hid (Below w.heap.size w (((w.alloc (.cells a0 t0)).alloc (.cells a1 t1)).alloc (.cells a2 t2))) := ⟨Lib.hid (((Blk.of (vs := a0) (t := t0) (w := w) (b := w.heap.size) (by simp)).alloc (.cells a1 t1)).alloc (.cells a2 t2)), Lib.hid ((Blk.of (vs := a1) (t := t1) (w := (w.alloc (.cells a0 t0))) (b := w.heap.size + 1) (by simp)).alloc (.cells a2 t2)), Lib.hid (Blk.of (vs := a2) (t := t2) (w := ((w.alloc (.cells a0 t0)).alloc (.cells a1 t1))) (b := w.heap.size + 1 + 1) (by simp)), Lib.hid ((((Below.refl w.heap.size w).alloc (by simp; try omega) (.cells a0 t0)).alloc (by simp; try omega) (.cells a1 t1)).alloc (by simp; try omega) (.cells a2 t2))⟩
theorem ent4 (w : World) (a0 : Array Value) (t0 : TypeId) (a1 : Array Value) (t1 : TypeId) (a2 : Array Value) (t2 : TypeId) (a3 : Array Value) (t3 : TypeId) : Hid (Blk a0.toList (w.heap.size) ((((w.alloc (.cells a0 t0)).alloc (.cells a1 t1)).alloc (.cells a2 t2)).alloc (.cells a3 t3))) ∧ Hid (Blk a1.toList (w.heap.size + 1) ((((w.alloc (.cells a0 t0)).alloc (.cells a1 t1)).alloc (.cells a2 t2)).alloc (.cells a3 t3))) ∧ Hid (Blk a2.toList (w.heap.size + 1 + 1) ((((w.alloc (.cells a0 t0)).alloc (.cells a1 t1)).alloc (.cells a2 t2)).alloc (.cells a3 t3))) ∧ Hid (Blk a3.toList (w.heap.size + 1 + 1 + 1) ((((w.alloc (.cells a0 t0)).alloc (.cells a1 t1)).alloc (.cells a2 t2)).alloc (.cells a3 t3))) ∧ Hid (Below w.heap.size w ((((w.alloc (.cells a0 t0)).alloc (.cells a1 t1)).alloc (.cells a2 t2)).alloc (.cells a3 t3))) := ⟨Lib.hid ((((Blk.of (vs := a0) (t := t0) (w := w) (b := w.heap.size) (by simp)).alloc (.cells a1 t1)).alloc (.cells a2 t2)).alloc (.cells a3 t3)), Lib.hid (((Blk.of (vs := a1) (t := t1) (w := (w.alloc (.cells a0 t0))) (b := w.heap.size + 1) (by simp)).alloc (.cells a2 t2)).alloc (.cells a3 t3)), Lib.hid ((Blk.of (vs := a2) (t := t2) (w := ((w.alloc (.cells a0 t0)).alloc (.cells a1 t1))) (b := w.heap.size + 1 + 1) (by simp)).alloc (.cells a3 t3)), Lib.hid (Blk.of (vs := a3) (t := t3) (w := (((w.alloc (.cells a0 t0)).alloc (.cells a1 t1)).alloc (.cells a2 t2))) (b := w.heap.size + 1 + 1 + 1) (by simp)), Lib.hid (((((Below.refl w.heap.size w).alloc (by simp; try omega) (.cells a0 t0)).alloc (by simp; try omega) (.cells a1 t1)).alloc (by simp; try omega) (.cells a2 t2)).alloc (by simp; try omega) (.cells a3 t3))⟩
theorem ent5 (w : World) (a0 : Array Value) (t0 : TypeId) (a1 : Array Value) (t1 : TypeId) (a2 : Array Value) (t2 : TypeId) (a3 : Array Value) (t3 : TypeId) (a4 : Array Value) (t4 : TypeId) : Hid (Blk a0.toList (w.heap.size) (((((w.alloc (.cells a0 t0)).alloc (.cells a1 t1)).alloc (.cells a2 t2)).alloc (.cells a3 t3)).alloc (.cells a4 t4))) ∧ Hid (Blk a1.toList (w.heap.size + 1) (((((w.alloc (.cells a0 t0)).alloc (.cells a1 t1)).alloc (.cells a2 t2)).alloc (.cells a3 t3)).alloc (.cells a4 t4))) ∧ Hid (Blk a2.toList (w.heap.size + 1 + 1) (((((w.alloc (.cells a0 t0)).alloc (.cells a1 t1)).alloc (.cells a2 t2)).alloc (.cells a3 t3)).alloc (.cells a4 t4))) ∧ Hid (Blk a3.toList (w.heap.size + 1 + 1 + 1) (((((w.alloc (.cells a0 t0)).alloc (.cells a1 t1)).alloc (.cells a2 t2)).alloc (.cells a3 t3)).alloc (.cells a4 t4))) ∧ Hid (Blk a4.toList (w.heap.size + 1 + 1 + 1 + 1) (((((w.alloc (.cells a0 t0)).alloc (.cells a1 t1)).alloc (.cells a2 t2)).alloc (.cells a3 t3)).alloc (.cells a4 t4))) ∧ Hid (Below w.heap.size w (((((w.alloc (.cells a0 t0)).alloc (.cells a1 t1)).alloc (.cells a2 t2)).alloc (.cells a3 t3)).alloc (.cells a4 t4))) := ⟨Lib.hid (((((Blk.of (vs := a0) (t := t0) (w := w) (b := w.heap.size) (by simp)).alloc (.cells a1 t1)).alloc (.cells a2 t2)).alloc (.cells a3 t3)).alloc (.cells a4 t4)), Lib.hid ((((Blk.of (vs := a1) (t := t1) (w := (w.alloc (.cells a0 t0))) (b := w.heap.size + 1) (by simp)).alloc (.cells a2 t2)).alloc (.cells a3 t3)).alloc (.cells a4 t4)), Lib.hid (((Blk.of (vs := a2) (t := t2) (w := ((w.alloc (.cells a0 t0)).alloc (.cells a1 t1))) (b := w.heap.size + 1 + 1) (by simp)).alloc (.cells a3 t3)).alloc (.cells a4 t4)), Lib.hid ((Blk.of (vs := a3) (t := t3) (w := (((w.alloc (.cells a0 t0)).alloc (.cells a1 t1)).alloc (.cells a2 t2))) (b := w.heap.size + 1 + 1 + 1) (by simp)).alloc (.cells a4 t4)), Lib.hid (Blk.of (vs := a4) (t := t4) (w := ((((w.alloc (.cells a0 t0)).alloc (.cells a1 t1)).alloc (.cells a2 t2)).alloc (.cells a3 t3))) (b := w.heap.size + 1 + 1 + 1 + 1) (by simp)), Lib.hid ((((((Below.refl w.heap.size w).alloc (by simp; try omega) (.cells a0 t0)).alloc (by simp; try omega) (.cells a1 t1)).alloc (by simp; try omega) (.cells a2 t2)).alloc (by simp; try omega) (.cells a3 t3)).alloc (by simp; try omega) (.cells a4 t4))⟩
end Go.Proofs.YtidelghgjibndaaGreat
namespace Go.Proofs.YtidelghgjibndaaGreat
set_option linter.unusedVariables false
open Go.RowKit
theorem bset2 {B n : Nat} {w w1 : World} (h : Below B w w1) (hB : B ≤ n) (u v : Value) : Below B w ((w1.setCell ⟨n, 0, none⟩ u).setCell ⟨n, 1, none⟩ v) :=
  (h.setCell (p := ⟨n, 0, none⟩) hB u).setCell (p := ⟨n, 1, none⟩) hB v
theorem ret_iw {k : IntKind} {a b : Int} (h : a = b) : Ending.returned (.int k a) = .returned (.int k b) := by rw [h]
/-- the value of a number of 128 bits -/
def wv (x : Int) : Value := .agg #[.int .i64 (hiW x), .int .u64 (loW x)]
theorem add64 (x y c : Int) (hx : 0 ≤ x) (hy : 0 ≤ y) (hc0 : 0 ≤ c) (hc : c ≤ 1) (w : World) : (callFunc 116 #[.int .u64 x, .int .u64 y, .int .u64 c]).run Tryz.prog w =
    .ok (.value (.tuple #[.int .u64 ((x + y + c) % 18446744073709551616), .int .u64 ((x + y + c) / 18446744073709551616)])) w := by
  obtain ⟨x, rfl⟩ := Int.eq_ofNat_of_zero_le hx
  obtain ⟨y, rfl⟩ := Int.eq_ofNat_of_zero_le hy
  obtain ⟨c, rfl⟩ := Int.eq_ofNat_of_zero_le hc0
  refine (Tryz.bits_Add64 x y c (by omega) w).trans ?_
  congr 5 <;> omega
/-- the borrow -/
def bor (x y b : Int) : Int := if x < y + b then 1 else 0
theorem bor_rng (x y b : Int) : 0 ≤ bor x y b ∧ bor x y b ≤ 1 := by unfold bor; split <;> omega
theorem sub64 (x y b : Int) (hx : 0 ≤ x) (hy : 0 ≤ y) (hy' : y < 18446744073709551616) (hb0 : 0 ≤ b) (hb : b ≤ 1) (w : World) : (callFunc 104 #[.int .u64 x, .int .u64 y, .int .u64 b]).run Tryz.prog w =
    .ok (.value (.tuple #[.int .u64 ((x - y - b) % 18446744073709551616), .int .u64 (bor x y b)])) w := by
  unfold bor
  obtain ⟨x, rfl⟩ := Int.eq_ofNat_of_zero_le hx
  obtain ⟨y, rfl⟩ := Int.eq_ofNat_of_zero_le hy
  obtain ⟨b, rfl⟩ := Int.eq_ofNat_of_zero_le hb0
  have e1 : (((x + 18446744073709551616 - y - b) % 18446744073709551616 : Nat) : Int) = ((x : Int) - y - b) % 18446744073709551616 := by omega
  have e2 : ((if x < y + b then 1 else 0 : Nat) : Int) = if (x : Int) < y + b then 1 else 0 := by split <;> split <;> omega
  rw [← e1, ← e2]
  exact Tryz.bits_Sub64 x y b (by omega) w
theorem wabs_any (a : Int) (w : World) (h0 : -9223372036854775808 ≤ a) (h1 : a ≤ 9223372036854775807) :
    Calls Tryz.prog 90 #[.int .i64 a] w fun e w' => e = .returned (.int .u64 (absW a)) ∧ w = w' := by
  by_cases h : a < 0
  · have g : decide (a < 0) = true := by simpa using h
    go_enter Tryz.func90, Tryz.ntmps90
    go_wp2
    go_ret
    refine ⟨ret_iw ?_, rfl⟩
    unfold absW
    rw [if_pos (by omega)]
    simp only [IntKind.wrap_u64]
    omega
  · have g : decide (a < 0) = false := by simpa using h
    go_enter Tryz.func90, Tryz.ntmps90
    go_wp2
    go_ret
    refine ⟨ret_iw ?_, rfl⟩
    unfold absW
    rw [if_neg (by omega)]
theorem mul64_int (x y : Int) (hx0 : 0 ≤ x) (hx : x < 18446744073709551616) (hy0 : 0 ≤ y) (hy : y < 18446744073709551616) (w : World) :
    Calls Tryz.prog 89 #[.int .u64 x, .int .u64 y] w fun e w' => e = .returned (.tuple #[.int .u64 (hiW (x * y)), .int .u64 (loW (x * y))]) ∧ w = w' := by
  obtain ⟨x, rfl⟩ := Int.eq_ofNat_of_zero_le hx0
  obtain ⟨y, rfl⟩ := Int.eq_ofNat_of_zero_le hy0
  refine (Tryz.bits_Mul64 x y (by omega) (by omega) w).mono fun e w' ⟨he, hw⟩ => ⟨?_, hw.symm⟩
  rw [he]
  unfold hiW loW
  rw [← Int.natCast_mul]
  rfl
def sgn (neg : Bool) (n : Int) : Int := if neg = true then -n else n
set_option maxHeartbeats 4000000 in
theorem join_any (n : Int) (neg : Bool) (w : World) (h0 : 0 ≤ n) (h1 : n < 170141183460469231731687303715884105728) :
    Calls Tryz.prog 91 #[.agg #[.int .u64 (hiW n), .int .u64 (loW n)], .bool neg] w fun e w' => e = .returned (.tuple #[wv (sgn neg n), .bool true]) ∧ Below w.heap.size w w' := by
  have a0 : 0 ≤ hiW n := by unfold hiW; omega
  have a1 : hiW n < 9223372036854775808 := by unfold hiW; omega
  obtain ⟨b0, b1⟩ := lo_rng n
  cases neg
  · have g : decide ((9223372036854775808 : Int) ≤ hiW n) = false := by simp; omega
    have e1 : IntKind.i64.wrap (hiW n) = hiW n := IntWalk.i64_in _ (by omega)
    go_enter Tryz.func91, Tryz.ntmps91
    go_wp2
    refine bodyPost_ret (v := .tuple #[.agg #[.int .i64 (hiW n), .int .u64 (loW n)], .bool true]) (by simp [results, Tryz.results91, go_sem]) rfl ⟨rfl, ?_⟩
    exact ((Below.refl _ _).alloc (Nat.le_refl _) _).alloc (by simp) _
  · have g1 : decide ((9223372036854775808 : Int) < hiW n) = false := by simp; omega
    have g2 : (hiW n == 9223372036854775808) = false := by simp; omega
    have S1 := fun w => sub64 0 (loW n) 0 (by omega) b0 b1 (by omega) (by omega) w
    have S2 := fun w => sub64 0 (hiW n) (bor 0 (loW n) 0) (by omega) a0 (by omega) (bor_rng _ _ _).1 (bor_rng _ _ _).2 w
    have E1 : (0 - loW n - 0) % 18446744073709551616 = loW (-n) := by unfold loW; omega
    have E2 : IntKind.i64.wrap ((0 - hiW n - bor 0 (loW n) 0) % 18446744073709551616) = hiW (-n) := by
      unfold bor hiW loW
      simp only [IntKind.wrap, IntKind.bits, IntKind.signed]
      split <;> simp <;> omega
    rw [E1] at S1
    generalize bor 0 (loW n) 0 = bo at *
    generalize (0 - hiW n - bo) % 18446744073709551616 = hh at *
    go_enter Tryz.func91, Tryz.ntmps91
    go_wp2_with (first | simp only [S1] | simp only [S2])
    refine bodyPost_ret (v := .tuple #[.agg #[.int .i64 (hiW (-n)), .int .u64 (loW (-n))], .bool true]) (by simp [results, Tryz.results91, go_sem]) rfl ⟨rfl, ?_⟩
    exact ((Below.refl _ _).alloc (Nat.le_refl _) _).alloc (by simp) _
set_option maxHeartbeats 4000000 in
set_option maxRecDepth 100000 in
theorem wmul_any (a b : Int) (w : World) (ha0 : -9223372036854775808 ≤ a) (ha1 : a ≤ 9223372036854775807) (hb0 : -9223372036854775808 ≤ b) (hb1 : b ≤ 9223372036854775807) :
    Calls Tryz.prog 60 #[.int .i64 a, .int .i64 b] w fun e w' => e = .returned (wv (a * b)) ∧ Below w.heap.size w w' := by
  have A1 : absW a ≤ 9223372036854775808 := by unfold absW; split <;> omega
  have B1 : absW b ≤ 9223372036854775808 := by unfold absW; split <;> omega
  obtain ⟨m0, m1⟩ := mul_u (absW_nonneg a) A1 (absW_nonneg b) B1
  have M := Lib.hid fun w => mul64_int (absW a) (absW b) (absW_nonneg a) (by omega) (absW_nonneg b) (by omega) w
  have AA := Lib.hid fun w => wabs_any a w ha0 ha1
  have AB := Lib.hid fun w => wabs_any b w hb0 hb1
  have E := Lib.hid (absW_mul a b)
  have J := Lib.hid fun w => join_any (absW a * absW b) (decide (a < 0) != decide (b < 0)) w m0 (by omega)
  generalize absW a * absW b = p at *
  have K0 := Lib.hid (Blk.new #[.int .i64 0, .int .u64 0] w 79)
  have HB0 := Lib.hid ((Below.refl w.heap.size w).alloc (Nat.le_refl _) (.cells #[.int .i64 0, .int .u64 0] 79))
  obtain ⟨sg, gs⟩ : ∃ sg, (decide (a < 0) == decide (b < 0)) = sg := ⟨_, rfl⟩
  have E2 : a * b = sgn (!sg) p := by rw [E.out, ← gs]; rfl
  have J2 : Hid (∀ w, Calls Tryz.prog 91 #[.agg #[.int .u64 (hiW p), .int .u64 (loW p)], .bool (!sg)] w fun e w' => e = .returned (.tuple #[wv (sgn (!sg) p), .bool true]) ∧ Below w.heap.size w w') := by rw [← gs]; exact J
  rw [E2]
  clear E E2 J
  obtain ⟨r, hr⟩ : ∃ r, sgn (!sg) p = r := ⟨_, rfl⟩
  rw [hr] at J2 ⊢
  go_enter Tryz.func60, Tryz.ntmps60
  go_wp2_with fail
  generalize w.alloc (.cells #[.int .i64 0, .int .u64 0] 79) = w0 at *
  refine (AA.out _).mono ?_
  rintro e w1 ⟨rfl, rfl⟩
  go_wp2_with fail
  refine (AB.out _).mono ?_
  rintro e w1 ⟨rfl, rfl⟩
  go_wp2_with fail
  refine (M.out _).mono ?_
  rintro e w1 ⟨rfl, rfl⟩
  go_wp2_with fail
  refine (J2.out _).mono ?_
  rintro e w1 ⟨rfl, hb1⟩
  have K1 := K0.out.below hb1
  have HB1 := Lib.hid (HB0.out.trans (hb1.mono HB0.out.size))
  unfold wv
  have c0 := K1.c 0 _ rfl
  have c1 := K1.c 1 _ rfl
  have f0 := K1.f 0 _ rfl
  have f1 := K1.f 1 _ rfl
  have z0 := K1.lt
  have HK1 := Lib.hid K1
  clear hb1 K1 gs hr
  go_wp2
  have K2 := (blk_set (blk_set HK1.out (j := 0) (by simp) (.int .i64 (hiW r))) (j := 1) (by simp) (.int .u64 (loW r))).alloc (.cells #[.int .i64 (hiW r), .int .u64 (loW r)] 79)
  have d0 := K2.c 0 _ rfl
  have d1 := K2.c 1 _ rfl
  refine bodyPost_ret (v := .agg #[.int .i64 (hiW r), .int .u64 (loW r)]) (by simp [results, Tryz.results60, go_sem, d0, d1]) rfl ⟨rfl, ?_⟩
  exact (bset2 HB1.out (Nat.le_refl _) _ _).alloc (by have := HB1.out.size; simp [World.setCell]; omega) _
theorem add_hi {x y : Int} (h : FitW (x + y)) :
    IntKind.i64.wrap ((IntKind.u64.wrap (hiW x) + IntKind.u64.wrap (hiW y) + (loW x + loW y + 0) / 18446744073709551616) % 18446744073709551616) = hiW (x + y) := by
  obtain ⟨a, b⟩ := h
  unfold hiW loW
  simp only [IntKind.wrap, IntKind.bits, IntKind.signed]
  simp
  omega
theorem add_lo (x y : Int) : (loW x + loW y + 0) % 18446744073709551616 = loW (x + y) := by unfold loW; omega
set_option maxHeartbeats 4000000 in
set_option maxRecDepth 100000 in
theorem wadd_any (x y : Int) (w : World) (hx : FitW x) (hy : FitW y) (hs : FitW (x + y)) :
    Calls Tryz.prog 88 #[wv x, wv y] w fun e w' => e = .returned (.tuple #[wv (x + y), .bool true]) ∧ Below w.heap.size w w' := by
  obtain ⟨p0, p1⟩ := lo_rng x
  obtain ⟨q0, q1⟩ := lo_rng y
  have S1 := fun w => add64 (loW x) (loW y) 0 p0 q0 (by omega) (by omega) w
  have S2 := fun w => add64 (IntKind.u64.wrap (hiW x)) (IntKind.u64.wrap (hiW y)) ((loW x + loW y + 0) / 18446744073709551616) (by rw [IntKind.wrap_u64]; omega) (by rw [IntKind.wrap_u64]; omega) (by omega) (by omega) w
  have E1 := add_hi hs
  rw [add_lo x y] at S1
  have C1 : (decide (hiW x < 0) == decide (hiW y < 0)) = false ∨ ((decide (hiW x < 0) == decide (hiW y < 0)) = true ∧ (decide (hiW (x + y) < 0) == decide (hiW x < 0)) = true) := by
    obtain ⟨a, b⟩ := hs
    by_cases h1 : x < 0 <;> by_cases h2 : y < 0 <;> simp [hi_neg, h1, h2] <;> omega
  generalize (loW x + loW y + 0) / 18446744073709551616 = c at *
  generalize (IntKind.u64.wrap (hiW x) + IntKind.u64.wrap (hiW y) + c) % 18446744073709551616 = hh at *
  have HS := Lib.hid hs
  clear hx hy hs
  unfold wv
  rcases C1 with g | ⟨g, g'⟩
  all_goals
    go_enter Tryz.func88, Tryz.ntmps88
    go_wp2_with (first | simp only [S1] | simp only [S2])
    refine bodyPost_ret (v := .tuple #[.agg #[.int .i64 (hiW (x + y)), .int .u64 (loW (x + y))], .bool true]) (by simp [results, Tryz.results88, go_sem]) rfl ⟨rfl, ?_⟩
    exact (((Below.refl _ _).alloc (Nat.le_refl _) _).alloc (by simp) _).alloc (by simp; try omega) _
set_option maxHeartbeats 4000000 in
theorem wint_any (x : Int) (w : World) (h0 : -9223372036854775808 ≤ x) (h1 : x < 9223372036854775808) :
    Calls Tryz.prog 85 #[wv x] w fun e w' => e = .returned (.tuple #[.int .i64 x, .bool true]) ∧ Below w.heap.size w w' := by
  have E1 : IntKind.i64.wrap (loW x) = x := by unfold loW; simp [IntKind.wrap, IntKind.bits, IntKind.signed]; omega
  have g : (hiW x == x / 9223372036854775808) = true := by unfold hiW; simp; omega
  unfold wv
  go_enter Tryz.func85, Tryz.ntmps85
  go_wp2
  go_ret2
  exact ⟨rfl, (Below.refl _ _).alloc (Nat.le_refl _) _⟩
theorem wint_out (x : Int) (w : World) (hx : FitW x) (h : x < -9223372036854775808 ∨ 9223372036854775808 ≤ x) :
    Calls Tryz.prog 85 #[wv x] w fun e w' => e = .returned (.tuple #[.int .i64 0, .bool false]) ∧ Below w.heap.size w w' := by
  obtain ⟨t, ht⟩ : ∃ t, IntKind.i64.wrap (loW x) = t := ⟨_, rfl⟩
  have g : (hiW x == t / 9223372036854775808) = false := by
    obtain ⟨a, b⟩ := hx
    rw [← ht]
    unfold hiW loW; simp [IntKind.wrap, IntKind.bits, IntKind.signed]; omega
  unfold wv
  go_enter Tryz.func85, Tryz.ntmps85
  go_wp2
  go_ret2
  exact ⟨rfl, (Below.refl _ _).alloc (Nat.le_refl _) _⟩
end Go.Proofs.YtidelghgjibndaaGreat
namespace Go.Proofs.YtidelghgjibndaaGreat
set_option linter.unusedVariables false
open Go.RowKit
set_option maxHeartbeats 4000000 in
theorem wof_any (a : Int) (w : World) (h0 : -9223372036854775808 ≤ a) (h1 : a ≤ 9223372036854775807) :
    Calls Tryz.prog 84 #[.int .i64 a] w fun e w' => e = .returned (wv a) ∧ Below w.heap.size w w' := by
  have E1 : a / 9223372036854775808 = hiW a := by unfold hiW; omega
  have E2 : IntKind.u64.wrap a = loW a := by rw [IntKind.wrap_u64]; rfl
  go_enter Tryz.func84, Tryz.ntmps84
  go_wp2
  refine bodyPost_ret (v := .agg #[.int .i64 (hiW a), .int .u64 (loW a)]) (by simp [results, Tryz.results84, go_sem]) rfl ⟨rfl, ?_⟩
  exact (Below.refl _ _).alloc (Nat.le_refl _) _
theorem sub_hi {x y : Int} (h : FitW (x - y)) :
    IntKind.i64.wrap ((IntKind.u64.wrap (hiW x) - IntKind.u64.wrap (hiW y) - bor (loW x) (loW y) 0) % 18446744073709551616) = hiW (x - y) := by
  obtain ⟨a, b⟩ := h
  rw [IntKind.wrap_u64, IntKind.wrap_u64]
  have e : ∀ z : Int, IntKind.i64.wrap (z % 18446744073709551616) = if 9223372036854775808 ≤ z % 18446744073709551616 then z % 18446744073709551616 - 18446744073709551616 else z % 18446744073709551616 := by
    intro z
    simp [IntKind.wrap, IntKind.bits, IntKind.signed]
  rw [e]
  unfold bor hiW loW
  by_cases c : x % 18446744073709551616 < y % 18446744073709551616 + 0
  · rw [if_pos c]
    split <;> omega
  · rw [if_neg c]
    split <;> omega
theorem sub_lo (x y : Int) : (loW x - loW y - 0) % 18446744073709551616 = loW (x - y) := by unfold loW; omega
set_option maxHeartbeats 4000000 in
set_option maxRecDepth 100000 in
theorem wsub_any (x y : Int) (w : World) (hx : FitW x) (hy : FitW y) (hs : FitW (x - y)) :
    Calls Tryz.prog 82 #[wv x, wv y] w fun e w' => e = .returned (.tuple #[wv (x - y), .bool true]) ∧ Below w.heap.size w w' := by
  obtain ⟨p0, p1⟩ := lo_rng x
  obtain ⟨q0, q1⟩ := lo_rng y
  have S1 := fun w => sub64 (loW x) (loW y) 0 p0 q0 q1 (by omega) (by omega) w
  have S2 := fun w => sub64 (IntKind.u64.wrap (hiW x)) (IntKind.u64.wrap (hiW y)) (bor (loW x) (loW y) 0) (by rw [IntKind.wrap_u64]; omega) (by rw [IntKind.wrap_u64]; omega) (by rw [IntKind.wrap_u64]; omega) (bor_rng _ _ _).1 (bor_rng _ _ _).2 w
  have E1 := sub_hi hs
  rw [sub_lo x y] at S1
  have C1 : (decide (hiW x < 0) == decide (hiW y < 0)) = true ∨ ((decide (hiW x < 0) == decide (hiW y < 0)) = false ∧ (decide (hiW (x - y) < 0) == decide (hiW x < 0)) = true) := by
    obtain ⟨a, b⟩ := hs
    by_cases h1 : x < 0 <;> by_cases h2 : y < 0 <;> simp [hi_neg, h1, h2] <;> omega
  generalize bor (loW x) (loW y) 0 = c at *
  generalize (IntKind.u64.wrap (hiW x) - IntKind.u64.wrap (hiW y) - c) % 18446744073709551616 = hh at *
  clear hx hy hs
  unfold wv
  rcases C1 with g | ⟨g, g'⟩
  all_goals
    go_enter Tryz.func82, Tryz.ntmps82
    go_wp2_with (first | simp only [S1] | simp only [S2])
    refine bodyPost_ret (v := .tuple #[.agg #[.int .i64 (hiW (x - y)), .int .u64 (loW (x - y))], .bool true]) (by simp [results, Tryz.results82, go_sem]) rfl ⟨rfl, ?_⟩
    exact (((Below.refl _ _).alloc (Nat.le_refl _) _).alloc (by simp) _).alloc (by simp; try omega) _
end Go.Proofs.YtidelghgjibndaaGreat
namespace Go.Proofs.YtidelghgjibndaaGreat
set_option linter.unusedVariables false
theorem or_word {x b : Int} (h0 : 0 ≤ x) (h1 : x < 18446744073709551616) (hb0 : 0 ≤ b) (hb : b < 2) :
    bits .or .u64 (IntKind.u64.wrap (x * 2)) b = (x * 2) % 18446744073709551616 + b := by
  obtain ⟨x, rfl⟩ := Int.eq_ofNat_of_zero_le h0
  obtain ⟨b, rfl⟩ := Int.eq_ofNat_of_zero_le hb0
  rw [show IntKind.u64.wrap ((x : Int) * 2) = ((2 * x % 18446744073709551616 : Nat) : Int) by rw [IntKind.wrap_u64]; omega,
    bits_or_u64_nat _ _ (by omega) (by omega), or_bit x b (by omega)]
  omega
theorem tw_hi {r b : Int} (h0 : 0 ≤ r) (h1 : r < 170141183460469231731687303715884105728) (hb0 : 0 ≤ b) (hb : b < 2) :
    bits .or .u64 (IntKind.u64.wrap (hiW r * 2)) (loW r / 9223372036854775808) = hiW (2 * r + b) := by
  have a0 : 0 ≤ hiW r := by unfold hiW; omega
  have a1 : hiW r < 9223372036854775808 := by unfold hiW; omega
  obtain ⟨c0, c1⟩ := lo_rng r
  rw [or_word a0 (by omega) (by omega) (by omega)]
  unfold hiW loW at *
  omega
theorem tw_lo {r b : Int} (h0 : 0 ≤ r) (hb0 : 0 ≤ b) (hb : b < 2) : bits .or .u64 (IntKind.u64.wrap (loW r * 2)) b = loW (2 * r + b) := by
  obtain ⟨c0, c1⟩ := lo_rng r
  rw [or_word c0 c1 hb0 hb]
  unfold loW at *
  omega
/-- what is left of the dividend above bit k, and its quotient and remainder -/
def qD (N D k : Nat) : Nat := N / 2 ^ k / D
def rD (N D k : Nat) : Nat := N / 2 ^ k % D
def bD (N k : Nat) : Nat := N / 2 ^ k % 2
theorem bD_lt (N k : Nat) : bD N k < 2 := Nat.mod_lt _ (by decide)
theorem qr_top {N D : Nat} (h : N < 340282366920938463463374607431768211456) : qD N D 128 = 0 ∧ rD N D 128 = 0 := by
  have e : N / 2 ^ 128 = 0 := Nat.div_eq_of_lt (by omega)
  unfold qD rD
  rw [e]
  simp
theorem qr_one {N D k : Nat} (hD : 0 < D) (h : D ≤ 2 * rD N D (k + 1) + bD N k) : qD N D k = 2 * qD N D (k + 1) + 1 ∧ rD N D k = 2 * rD N D (k + 1) + bD N k - D := by
  unfold qD rD at *
  rw [bit_at N k]
  exact div_one (bD_lt N k) hD h
theorem qr_zero {N D k : Nat} (hD : 0 < D) (h : ¬ D ≤ 2 * rD N D (k + 1) + bD N k) : qD N D k = 2 * qD N D (k + 1) ∧ rD N D k = 2 * rD N D (k + 1) + bD N k := by
  unfold qD rD at *
  rw [bit_at N k]
  exact div_zero (bD_lt N k) hD h
theorem qr_end (N D : Nat) : qD N D 0 = N / D ∧ rD N D 0 = N % D := by
  unfold qD rD
  simp
theorem rD_lt (N k : Nat) {D : Nat} (h : 0 < D) : rD N D k < D := Nat.mod_lt _ h
theorem qD_lt {N D k : Nat} (h : N < 340282366920938463463374607431768211456) : qD N D (k + 1) < 170141183460469231731687303715884105728 :=
  Nat.lt_of_le_of_lt (Nat.div_le_self _ _) (top_small h)
theorem bit_lo' {N i : Nat} (h : i < 64) : loW (N : Int) / (2 ^ i : Nat) % 2 = (bD N i : Int) := by
  have e : loW (N : Int) = ((N % 18446744073709551616 : Nat) : Int) := by unfold loW; omega
  rw [e]
  unfold bD
  rw [← bit_lo h]
  rfl
theorem bit_hi' {N i : Nat} (h : 64 ≤ i) : hiW (N : Int) / (2 ^ (i - 64) : Nat) % 2 = (bD N i : Int) := by
  have e : hiW (N : Int) = ((N / 18446744073709551616 : Nat) : Int) := by unfold hiW; omega
  rw [e]
  unfold bD
  rw [← bit_hi h]
  rfl
/-- two sizes compared word by word -/
def cmpI (x y : Int) : Int := if x < y then -1 else if y < x then 1 else 0
theorem cmp_words {x y : Int} : cmpI x y = if hiW x = hiW y then cmpI (loW x) (loW y) else cmpI (hiW x) (hiW y) := by
  unfold cmpI hiW loW
  split <;> split <;> (try split) <;> (try split) <;> (try split) <;> omega
end Go.Proofs.YtidelghgjibndaaGreat
namespace Go.Proofs.YtidelghgjibndaaGreat
set_option linter.unusedVariables false
open Go.RowKit
/-- the value of a size -/
def usz (n : Int) : Value := .agg #[.int .u64 (hiW n), .int .u64 (loW n)]
theorem retb {a b : Bool} (h : a = b) : Ending.returned (.bool a) = .returned (.bool b) := by rw [h]
set_option maxHeartbeats 4000000 in
theorem wsplit_any (x : Int) (w : World) (h : FitW x) :
    Calls Tryz.prog 124 #[wv x] w fun e w' => e = .returned (.tuple #[usz (absW x), .bool (decide (x < 0))]) ∧ Below w.heap.size w w' := by
  obtain ⟨b0, b1⟩ := lo_rng x
  obtain ⟨a0, a1⟩ := hi_rng h
  unfold wv usz
  by_cases q : x < 0
  · have g : decide (0 ≤ hiW x) = false := by have := (hi_neg x).2 q; simp; omega
    have g' : decide (hiW x < 0) = true := by have := (hi_neg x).2 q; simp; omega
    have EX : decide (x < 0) = true := by simpa using q
    have S1 := fun w => sub64 0 (loW x) 0 (by omega) b0 b1 (by omega) (by omega) w
    have S2 := fun w => sub64 0 (IntKind.u64.wrap (hiW x)) (bor 0 (loW x) 0) (by omega) (by rw [IntKind.wrap_u64]; omega) (by rw [IntKind.wrap_u64]; omega) (bor_rng _ _ _).1 (bor_rng _ _ _).2 w
    have E1 : (0 - loW x - 0) % 18446744073709551616 = loW (absW x) := by unfold absW loW; split <;> omega
    have E2 : (0 - IntKind.u64.wrap (hiW x) - bor 0 (loW x) 0) % 18446744073709551616 = hiW (absW x) := by
      obtain ⟨f0, f1⟩ := h
      rw [IntKind.wrap_u64]
      unfold bor hiW loW absW
      split <;> (try split) <;> omega
    rw [E1] at S1
    rw [E2] at S2
    rw [EX]
    generalize bor 0 (loW x) 0 = bo at *
    clear E1 E2 EX h q
    generalize absW x = r at *
    go_enter Tryz.func124, Tryz.ntmps124
    go_wp2_with (first | simp only [S1] | simp only [S2])
    refine bodyPost_ret (v := .tuple #[.agg #[.int .u64 (hiW r), .int .u64 (loW r)], .bool true]) (by simp [results, Tryz.results124, go_sem]) rfl ⟨rfl, ?_⟩
    exact ((Below.refl _ _).alloc (Nat.le_refl _) _).alloc (by simp) _
  · have g : decide (0 ≤ hiW x) = true := by have := hi_neg x; simp; omega
    have g' : decide (hiW x < 0) = false := by have := hi_neg x; simp; omega
    have EX : decide (x < 0) = false := by simpa using q
    have EA : absW x = x := by unfold absW; rw [if_neg q]
    have E1 : IntKind.u64.wrap (hiW x) = hiW x := by have := hi_neg x; rw [IntKind.wrap_u64]; omega
    rw [EX, EA]
    clear EX EA h q
    go_enter Tryz.func124, Tryz.ntmps124
    go_wp2
    refine bodyPost_ret (v := .tuple #[.agg #[.int .u64 (hiW x), .int .u64 (loW x)], .bool false]) (by simp [results, Tryz.results124, go_sem]) rfl ⟨rfl, ?_⟩
    exact ((Below.refl _ _).alloc (Nat.le_refl _) _).alloc (by simp) _
set_option maxHeartbeats 4000000 in
theorem wzero_any (n : Int) (w : World) :
    Calls Tryz.prog 125 #[usz n] w fun e w' => e = .returned (.bool (decide (n = 0))) ∧ Below w.heap.size w w' := by
  unfold usz
  by_cases h : hiW n = 0
  · have g : (hiW n == 0) = true := by simpa using h
    by_cases k : loW n = 0
    · have g' : (loW n == 0) = true := by simpa using k
      have E := Lib.hid (show decide (n = 0) = true by unfold hiW loW at *; simp; omega)
      clear h k
      go_enter Tryz.func125, Tryz.ntmps125
      go_wp2
      go_ret
      exact ⟨retb E.out.symm, (Below.refl _ _).alloc (Nat.le_refl _) _⟩
    · have g' : (loW n == 0) = false := by simpa using k
      have E := Lib.hid (show decide (n = 0) = false by unfold hiW loW at *; simp; omega)
      clear h k
      go_enter Tryz.func125, Tryz.ntmps125
      go_wp2
      go_ret
      exact ⟨retb E.out.symm, (Below.refl _ _).alloc (Nat.le_refl _) _⟩
  · have g : (hiW n == 0) = false := by simpa using h
    have E := Lib.hid (show decide (n = 0) = false by unfold hiW at *; simp; omega)
    clear h
    go_enter Tryz.func125, Tryz.ntmps125
    go_wp2
    go_ret
    exact ⟨retb E.out.symm, (Below.refl _ _).alloc (Nat.le_refl _) _⟩
theorem isnan_u (x : Int) (w : World) : Calls Tryz.prog 138 #[.int .u64 x] w fun e w' => e = .returned (.bool false) ∧ w = w' := by
  have g : (x == x) = true := by simp
  go_enter Tryz.func138, Tryz.ntmps138
  go_wp2
  go_ret
  exact ⟨rfl, rfl⟩
set_option maxHeartbeats 4000000 in
theorem compare_u (x y : Int) (w : World) : Calls Tryz.prog 136 #[.int .u64 x, .int .u64 y] w fun e w' => e = .returned (.int .i64 (cmpI x y)) ∧ w = w' := by
  rcases Int.lt_trichotomy x y with h | h | h
  · have g : decide (x < y) = true := by simpa using h
    have E := Lib.hid (show cmpI x y = -1 by unfold cmpI; rw [if_pos h])
    clear h
    go_enter Tryz.func136, Tryz.ntmps136
    go_wp2_with (go_at_call 138; refine (isnan_u _ _).mono ?_; rintro e w2 ⟨rfl, rfl⟩)
    go_ret
    exact ⟨ret_iw E.out.symm, rfl⟩
  · subst h
    have g : decide (x < x) = false := by simp
    have E := Lib.hid (show cmpI x x = 0 by unfold cmpI; rw [if_neg (by omega), if_neg (by omega)])
    go_enter Tryz.func136, Tryz.ntmps136
    go_wp2_with (go_at_call 138; refine (isnan_u _ _).mono ?_; rintro e w2 ⟨rfl, rfl⟩)
    go_ret
    exact ⟨ret_iw E.out.symm, rfl⟩
  · have g : decide (x < y) = false := by simp; omega
    have g' : decide (y < x) = true := by simpa using h
    have E := Lib.hid (show cmpI x y = 1 by unfold cmpI; rw [if_neg (by omega), if_pos (by omega)])
    clear h
    go_enter Tryz.func136, Tryz.ntmps136
    go_wp2_with (go_at_call 138; refine (isnan_u _ _).mono ?_; rintro e w2 ⟨rfl, rfl⟩)
    go_ret
    exact ⟨ret_iw E.out.symm, rfl⟩
set_option maxHeartbeats 4000000 in
theorem wcmp_any (x y : Int) (w : World) :
    Calls Tryz.prog 127 #[usz x, usz y] w fun e w' => e = .returned (.int .i64 (cmpI x y)) ∧ Below w.heap.size w w' := by
  unfold usz
  by_cases h : hiW x = hiW y
  · have g : (hiW x == hiW y) = true := by simpa using h
    have g' : (hiW x != hiW y) = false := by simpa using h
    have E := Lib.hid (show cmpI x y = cmpI (loW x) (loW y) by rw [cmp_words, if_pos h])
    have C := Lib.hid fun w => compare_u (loW x) (loW y) w
    generalize cmpI (loW x) (loW y) = c at *
    generalize hiW x = a at *
    generalize hiW y = b at *
    clear h
    go_enter Tryz.func127, Tryz.ntmps127
    go_wp2_with (go_at_call 136; refine (C.out _).mono ?_; rintro e w2 ⟨rfl, rfl⟩)
    go_ret
    exact ⟨ret_iw E.out.symm, ((Below.refl _ _).alloc (Nat.le_refl _) _).alloc (by simp) _⟩
  · have g : (hiW x == hiW y) = false := by simpa using h
    have g' : (hiW x != hiW y) = true := by simpa using h
    have E := Lib.hid (show cmpI x y = cmpI (hiW x) (hiW y) by rw [cmp_words, if_neg h])
    have C := Lib.hid fun w => compare_u (hiW x) (hiW y) w
    generalize cmpI (hiW x) (hiW y) = c at *
    generalize hiW x = a at *
    generalize hiW y = b at *
    clear h
    go_enter Tryz.func127, Tryz.ntmps127
    go_wp2_with (go_at_call 136; refine (C.out _).mono ?_; rintro e w2 ⟨rfl, rfl⟩)
    go_ret
    exact ⟨ret_iw E.out.symm, ((Below.refl _ _).alloc (Nat.le_refl _) _).alloc (by simp) _⟩
set_option maxHeartbeats 4000000 in
theorem wtwice_any (r b : Int) (w : World) (h0 : 0 ≤ r) (h1 : r < 170141183460469231731687303715884105728) (hb0 : 0 ≤ b) (hb : b < 2) :
    Calls Tryz.prog 135 #[usz r, .int .u64 b] w fun e w' => e = .returned (usz (2 * r + b)) ∧ Below w.heap.size w w' := by
  have T1 := tw_hi h0 h1 hb0 hb
  have T2 := tw_lo (r := r) h0 hb0 hb
  unfold usz
  generalize hiW (2 * r + b) = c at *
  generalize loW (2 * r + b) = d at *
  go_enter Tryz.func135, Tryz.ntmps135
  go_wp2
  refine bodyPost_ret (v := .agg #[.int .u64 c, .int .u64 d]) (by simp [results, Tryz.results135, go_sem]) rfl ⟨rfl, ?_⟩
  exact ((Below.refl _ _).alloc (Nat.le_refl _) _).alloc (by simp) _
set_option maxHeartbeats 4000000 in
theorem wless_any (s t : Int) (w : World) (h0 : 0 ≤ t) (h1 : t ≤ s) (h2 : s < 340282366920938463463374607431768211456) :
    Calls Tryz.prog 128 #[usz s, usz t] w fun e w' => e = .returned (usz (s - t)) ∧ Below w.heap.size w w' := by
  obtain ⟨p0, p1⟩ := lo_rng s
  obtain ⟨q0, q1⟩ := lo_rng t
  have S1 := fun w => sub64 (loW s) (loW t) 0 p0 q0 q1 (by omega) (by omega) w
  have S2 := fun w => sub64 (hiW s) (hiW t) (bor (loW s) (loW t) 0) (by unfold hiW; omega) (by unfold hiW; omega) (by unfold hiW; omega) (bor_rng _ _ _).1 (bor_rng _ _ _).2 w
  have E1 := sub_lo s t
  have E2 : (hiW s - hiW t - bor (loW s) (loW t) 0) % 18446744073709551616 = hiW (s - t) := by
    unfold bor hiW loW
    split <;> omega
  rw [E1] at S1
  rw [E2] at S2
  clear E1 E2
  unfold usz
  generalize bor (loW s) (loW t) 0 = bo at *
  generalize hiW (s - t) = c at *
  generalize loW (s - t) = d at *
  go_enter Tryz.func128, Tryz.ntmps128
  go_wp2_with (first | simp only [S1] | simp only [S2])
  refine bodyPost_ret (v := .agg #[.int .u64 c, .int .u64 d]) (by simp [results, Tryz.results128, go_sem]) rfl ⟨rfl, ?_⟩
  exact (((Below.refl _ _).alloc (Nat.le_refl _) _).alloc (by simp) _).alloc (by simp; try omega) _
end Go.Proofs.YtidelghgjibndaaGreat
namespace Go.Proofs.YtidelghgjibndaaGreat
set_option linter.unusedVariables false
open Go.RowKit
theorem and_i64 (a : Nat) (h : a < 9223372036854775808) : bits .and .i64 (a : Int) 63 = ((a % 64 : Nat) : Int) := by
  have h1 : (BitVec.ofInt 64 (a : Int)).toNat = a := by
    rw [BitVec.ofInt_natCast, BitVec.toNat_ofNat]; exact Nat.mod_eq_of_lt (by omega)
  have h2 : (BitVec.ofInt 64 (63 : Int)).toNat = 63 := rfl
  show IntKind.i64.wrap ((BitVec.ofInt 64 (a : Int) &&& BitVec.ofInt 64 (63 : Int)).toNat : Int) = _
  rw [BitVec.toNat_and, h1, h2, show (63 : Nat) = 2 ^ 6 - 1 from rfl, Nat.and_two_pow_sub_one_eq_mod]
  exact IntWalk.i64_in _ (by omega)
theorem and1_u64 {x : Int} (h0 : 0 ≤ x) (h1 : x < 18446744073709551616) : bits .and .u64 x 1 = x % 2 := by
  obtain ⟨x, rfl⟩ := Int.eq_ofNat_of_zero_le h0
  have := bits_and_u64_nat x 1 (by omega) (by omega)
  rw [show ((1 : Nat) : Int) = 1 from rfl] at this
  rw [this, Nat.and_one_is_mod]
  rfl
theorem or1_u64 {q : Int} (h0 : 0 ≤ q) : bits .or .u64 (loW (2 * q)) 1 = loW (2 * q + 1) := by
  obtain ⟨c0, c1⟩ := lo_rng q
  have := or_word (x := loW q) (b := 1) c0 c1 (by omega) (by omega)
  rw [show loW (2 * q) = IntKind.u64.wrap (loW q * 2) by rw [IntKind.wrap_u64]; unfold loW; omega, this]
  unfold loW; omega
theorem hi_odd {q : Int} (h0 : 0 ≤ q) : hiW (2 * q) = hiW (2 * q + 1) := by unfold hiW; omega
theorem div_pow {x : Int} {j : Nat} (h0 : 0 ≤ x) (h1 : x < 18446744073709551616) : 0 ≤ x / 2 ^ j ∧ x / 2 ^ j < 18446744073709551616 := by
  have hp : (0 : Int) < 2 ^ j := Int.pow_pos (by decide)
  refine ⟨Int.ediv_nonneg h0 (by omega), ?_⟩
  exact Int.lt_of_le_of_lt (Int.ediv_le_self _ h0) h1
/-- the bit of a size at a place, as the walk reads it -/
theorem bit_low {N j : Nat} (h : j < 64) : bits .and .u64 (loW (N : Int) / 2 ^ j) 1 = (bD N j : Int) := by
  obtain ⟨b0, b1⟩ := lo_rng (N : Int)
  obtain ⟨c0, c1⟩ := div_pow (j := j) b0 b1
  rw [and1_u64 c0 c1, ← bit_lo' h, Int.natCast_pow]
  rfl
theorem bit_high {N j : Nat} (hN : N < 340282366920938463463374607431768211456) : bits .and .u64 (hiW (N : Int) / 2 ^ j) 1 = (bD N (j + 64) : Int) := by
  obtain ⟨c0, c1⟩ := div_pow (x := hiW (N : Int)) (j := j) (by unfold hiW; omega) (by unfold hiW; omega)
  rw [and1_u64 c0 c1, ← bit_hi' (i := j + 64) (by omega), Int.natCast_pow, show j + 64 - 64 = j by omega]
  rfl
def OvR (N D : Nat) (w : World) (v : Value) (wr : World) : Prop := ∃ (k : Nat) (z : Int), v = .int .i64 z ∧ Hid (z = (k : Int) - 1) ∧ k ≤ 128 ∧ Hid (Below w.heap.size w wr) ∧
  Hid (Blk [.int .u64 (hiW N), .int .u64 (loW N)] w.heap.size wr) ∧ Hid (Blk [.int .u64 (hiW D), .int .u64 (loW D)] (w.heap.size + 1) wr) ∧
  Hid (Blk [.int .u64 (hiW (qD N D k : Nat)), .int .u64 (loW (qD N D k : Nat))] (w.heap.size + 1 + 1) wr) ∧ Hid (Blk [.int .u64 (hiW (rD N D k : Nat)), .int .u64 (loW (rD N D k : Nat))] (w.heap.size + 1 + 1 + 1) wr)
theorem below_drew1 {B : Nat} {a w : World} (h : Below B a w) : Below B a w.drew := ⟨h.os, h.tape, h.output, h.size, h.block⟩
theorem ov_step {N D i : Nat} (hN : N < 340282366920938463463374607431768211456) (hD : 0 < D) (hD1 : D ≤ 170141183460469231731687303715884105728) :
    ∃ R Q b R' Q' : Int, R = (rD N D (i + 1) : Nat) ∧ Q = (qD N D (i + 1) : Nat) ∧ b = (bD N i : Nat) ∧ R' = (rD N D i : Nat) ∧ Q' = (qD N D i : Nat) ∧
      0 ≤ R ∧ R < 170141183460469231731687303715884105728 ∧ 0 ≤ Q ∧ Q < 170141183460469231731687303715884105728 ∧ 0 ≤ b ∧ b < 2 ∧ (0 : Int) < D ∧ (D : Int) ≤ 170141183460469231731687303715884105728 ∧
      (((D : Int) ≤ 2 * R + b ∧ Q' = 2 * Q + 1 ∧ R' = 2 * R + b - D) ∨ (2 * R + b < (D : Int) ∧ Q' = 2 * Q ∧ R' = 2 * R + b)) := by
  have BB := bD_lt N i
  have RL := rD_lt N (D := D) (k := i + 1) hD
  have QL := qD_lt (D := D) (k := i) hN
  refine ⟨_, _, _, _, _, rfl, rfl, rfl, rfl, rfl, by omega, by omega, by omega, by omega, by omega, by omega, by omega, by omega, ?_⟩
  by_cases h : D ≤ 2 * rD N D (i + 1) + bD N i
  · have := qr_one hD h
    exact .inl ⟨by omega, by omega, by omega⟩
  · have := qr_zero hD h
    exact .inr ⟨by omega, by omega, by omega⟩
theorem blk_drew1 {vs : List Value} {b : Nat} {W : World} (h : Blk vs b W) : Blk vs b W.drew := h.same rfl (Nat.le_refl _)
set_option maxHeartbeats 8000000 in
set_option maxRecDepth 100000 in
theorem wover_any (N D : Nat) (w : World) (hN : N < 340282366920938463463374607431768211456) (hD : 0 < D) (hD1 : D ≤ 170141183460469231731687303715884105728) :
    Calls Tryz.prog 126 #[usz N, usz D] w fun e w' => e = .returned (.tuple #[usz (N / D : Nat), usz (N % D : Nat)]) ∧ Below w.heap.size w w' := by
  obtain ⟨t0, t1⟩ := qr_top (D := D) hN
  obtain ⟨n0, n1⟩ := qr_end N D
  have HE0 := Lib.hid n0
  have HE1 := Lib.hid n1
  have ST := Lib.hid fun i => ov_step (i := i) hN hD hD1
  have BL := Lib.hid fun i (h : i < 64) => bit_low (N := N) h
  have BH := Lib.hid fun j => bit_high (j := j) hN
  clear n0 n1 hN hD hD1
  unfold usz
  obtain ⟨KS, KD, KQ, KR, HB⟩ := ent4 w #[.int .u64 (hiW (N : Int)), .int .u64 (loW (N : Int))] 153 #[.int .u64 (hiW (D : Int)), .int .u64 (loW (D : Int))] 153 #[.int .u64 0, .int .u64 0] 153 #[.int .u64 0, .int .u64 0] 153
  go_enter Tryz.func126, Tryz.ntmps126
  go_wp2
  generalize (((w.alloc (.cells #[.int .u64 (hiW (N : Int)), .int .u64 (loW (N : Int))] 153)).alloc (.cells #[.int .u64 (hiW (D : Int)), .int .u64 (loW (D : Int))] 153)).alloc (.cells #[.int .u64 0, .int .u64 0] 153)).alloc (.cells #[.int .u64 0, .int .u64 0] 153) = w0 at *
  go_loopw [6] (OvR N D w) (fun v _ => (intOf v + 1).toNat)
  case atStart => exact ⟨128, 127, rfl, Lib.hid (by rfl), Nat.le_refl _, HB, KS, KD, by rw [t0]; exact KQ, by rw [t1]; exact KR⟩
  case round =>
    clear t0 t1
    obtain ⟨k, z, rfl, HZ, hk, HB, KS, KD, KQ, KR⟩ := hrel
    cases k with
    | zero =>
      have g : decide (0 ≤ z) = false := by have := HZ.out; simp; omega
      clear HZ
      have VQ : (qD N D 0 : Int) = ((N / D : Nat) : Int) := by rw [HE0.out]
      have VR : (rD N D 0 : Int) = ((N % D : Nat) : Int) := by rw [HE1.out]
      rw [VQ] at KQ
      rw [VR] at KR
      clear VQ VR
      obtain ⟨Q, hQ⟩ : ∃ Q, ((N / D : Nat) : Int) = Q := ⟨_, rfl⟩
      obtain ⟨R, hR⟩ : ∃ R, ((N % D : Nat) : Int) = R := ⟨_, rfl⟩
      rw [hQ] at KQ
      rw [hR] at KR
      have HQ := Lib.hid hQ
      have HR := Lib.hid hR
      clear hQ hR
      obtain ⟨yQ_0, yQ_1, yQ_z, yQ_f0, yQ_f1⟩ := blf2 KQ
      obtain ⟨yR_0, yR_1, yR_z, yR_f0, yR_f1⟩ := blf2 KR
      go_wp2_with fail
      go_region
      have hs := st2 wr (w.heap.size + 1 + 1) 0 (.int .u64 (hiW Q)) 1 (.int .u64 (loW Q))
      replace KS := oB hs KS (by omega)
      replace KD := oB hs KD (by omega)
      replace KQ := Lib.hid (blk_set (blk_set KQ.out (j := 0) (by simp) (.int .u64 (hiW Q))) (j := 1) (by simp) (.int .u64 (loW Q)))
      replace KR := oB hs KR (by omega)
      replace HB := oH hs HB (by omega)
      clear hs
      clear yQ_0 yQ_1 yQ_z yQ_f0 yQ_f1 yR_0 yR_1 yR_z yR_f0 yR_f1
      simp only [List.set] at KQ
      have hs := st2 ((wr.setCell ⟨(w.heap.size + 1 + 1), 0, none⟩ (.int .u64 (hiW Q))).setCell ⟨(w.heap.size + 1 + 1), 1, none⟩ (.int .u64 (loW Q))) (w.heap.size + 1 + 1 + 1) 0 (.int .u64 (hiW R)) 1 (.int .u64 (loW R))
      replace KS := oB hs KS (by omega)
      replace KD := oB hs KD (by omega)
      replace KQ := oB hs KQ (by omega)
      replace KR := Lib.hid (blk_set (blk_set KR.out (j := 0) (by simp) (.int .u64 (hiW R))) (j := 1) (by simp) (.int .u64 (loW R)))
      replace HB := oH hs HB (by omega)
      clear hs
      simp only [List.set] at KR
      replace KS := Lib.hid (blk_drew1 KS.out)
      replace KD := Lib.hid (blk_drew1 KD.out)
      replace KQ := Lib.hid (blk_drew1 KQ.out)
      replace KR := Lib.hid (blk_drew1 KR.out)
      replace HB := Lib.hid (below_drew1 HB.out)
      generalize (((((wr.setCell ⟨(w.heap.size + 1 + 1), 0, none⟩ (.int .u64 (hiW Q))).setCell ⟨(w.heap.size + 1 + 1), 1, none⟩ (.int .u64 (loW Q))).setCell ⟨(w.heap.size + 1 + 1 + 1), 0, none⟩ (.int .u64 (hiW R))).setCell ⟨(w.heap.size + 1 + 1 + 1), 1, none⟩ (.int .u64 (loW R)))).drew = w3 at *
      obtain ⟨yQ_0, yQ_1, yQ_z⟩ := blk2 KQ
      obtain ⟨yR_0, yR_1, yR_z⟩ := blk2 KR
      go_wp2
      refine bodyPost_ret (v := .tuple #[.agg #[.int .u64 (hiW Q), .int .u64 (loW Q)], .agg #[.int .u64 (hiW R), .int .u64 (loW R)]]) (by simp [results, Tryz.results126, go_sem, yQ_0, yQ_1, yR_0, yR_1]) rfl ⟨by rw [HQ.out, HR.out], HB.out⟩
    | succ i =>
      have hz : z = (i : Int) := by have := HZ.out; omega
      subst hz
      clear HZ
      obtain ⟨R, Q, b, R', Q', eR, eQ, eb, eR', eQ', r0, r1, q0, q1, b0, b1, dp, dm, fin⟩ := ST.out i
      rw [← eR] at KR
      rw [← eQ] at KQ
      have eb0 := Lib.hid eb
      have HR' := Lib.hid eR'
      have HQ' := Lib.hid eQ'
      have TW := Lib.hid fun w => wtwice_any R b w r0 r1 b0 b1
      have TQ := Lib.hid fun w => wtwice_any Q 0 w q0 q1 (by omega) (by omega)
      have CM := Lib.hid fun w => wcmp_any (2 * R + b) (D : Int) w
      have LS := Lib.hid fun (h : (D : Int) ≤ 2 * R + b) w => wless_any (2 * R + b) (D : Int) w (by omega) h (by omega)
      have O1 := or1_u64 (q := Q) q0
      have O2 := Lib.hid (hi_odd (q := Q) q0)
      have g0 : decide (0 ≤ (i : Int)) = true := by simp
      have A63 := and_i64 i (by omega)
      have BL1 := BL.out i
      have BH1 := BH.out (i - 64)
      rw [← eb] at BL1
      have hk2 : i < 128 := by omega
      unfold usz at TW TQ CM LS
      simp only [Int.add_zero] at TQ
      clear hk eR eQ eb eR' eQ' ST BL BH HE0 HE1 r0 r1 q0 q1 b0 b1 dp dm
      generalize hd : (D : Int) = dd at *
      by_cases h64 : i < 64
      · rw [Nat.mod_eq_of_lt h64] at A63
        have BT := BL1 h64
        have g64 : decide (64 ≤ (i : Int)) = false := by simp; omega
        clear BL1 BH1
        rcases fin with ⟨f0, f1, f2⟩ | ⟨f0, f1, f2⟩
        · have LS2 := Lib.hid (LS.out f0)
          have gc : decide (0 ≤ cmpI (2 * R + b) dd) = true := by unfold cmpI; rw [if_neg (by omega)]; split <;> decide
          clear LS f0
          generalize cmpI (2 * R + b) dd = c at *
          obtain ⟨yS_0, yS_1, yS_z⟩ := blk2 KS
          obtain ⟨yR_0, yR_1, yR_z, yR_f0, yR_f1⟩ := blf2 KR
          go_wp2_with fail
          refine (TW.out _).mono ?_
          rintro e1 w1 ⟨rfl, hb1⟩
          replace HB := hT HB hb1
          replace KS := hK KS hb1
          replace KD := hK KD hb1
          replace KQ := hK KQ hb1
          replace KR := hK KR hb1
          clear yS_0 yS_1 yS_z yR_0 yR_1 yR_z yR_f0 yR_f1
          clear hb1
          obtain ⟨yQ_0, yQ_1, yQ_z, yQ_f0, yQ_f1⟩ := blf2 KQ
          obtain ⟨yR_0, yR_1, yR_z, yR_f0, yR_f1⟩ := blf2 KR
          go_wp2_with fail
          have hs := st2 w1 (w.heap.size + 1 + 1 + 1) 0 (.int .u64 (hiW (2 * R + b))) 1 (.int .u64 (loW (2 * R + b)))
          replace KS := oB hs KS (by omega)
          replace KD := oB hs KD (by omega)
          replace KQ := oB hs KQ (by omega)
          replace KR := Lib.hid (blk_set (blk_set KR.out (j := 0) (by simp) (.int .u64 (hiW (2 * R + b)))) (j := 1) (by simp) (.int .u64 (loW (2 * R + b))))
          replace HB := oH hs HB (by omega)
          clear hs
          clear yQ_0 yQ_1 yQ_z yQ_f0 yQ_f1 yR_0 yR_1 yR_z yR_f0 yR_f1
          generalize (w1.setCell ⟨(w.heap.size + 1 + 1 + 1), 0, none⟩ (.int .u64 (hiW (2 * R + b)))).setCell ⟨(w.heap.size + 1 + 1 + 1), 1, none⟩ (.int .u64 (loW (2 * R + b))) = w2 at *
          simp only [List.set] at KR
          refine (TQ.out _).mono ?_
          rintro e3 w3 ⟨rfl, hb3⟩
          replace HB := hT HB hb3
          replace KS := hK KS hb3
          replace KD := hK KD hb3
          replace KQ := hK KQ hb3
          replace KR := hK KR hb3
          clear hb3
          obtain ⟨yD_0, yD_1, yD_z⟩ := blk2 KD
          obtain ⟨yQ_0, yQ_1, yQ_z, yQ_f0, yQ_f1⟩ := blf2 KQ
          obtain ⟨yR_0, yR_1, yR_z, yR_f0, yR_f1⟩ := blf2 KR
          go_wp2_with fail
          have hs := st2 w3 (w.heap.size + 1 + 1) 0 (.int .u64 (hiW (2 * Q))) 1 (.int .u64 (loW (2 * Q)))
          replace KS := oB hs KS (by omega)
          replace KD := oB hs KD (by omega)
          replace KQ := Lib.hid (blk_set (blk_set KQ.out (j := 0) (by simp) (.int .u64 (hiW (2 * Q)))) (j := 1) (by simp) (.int .u64 (loW (2 * Q))))
          replace KR := oB hs KR (by omega)
          replace HB := oH hs HB (by omega)
          clear hs
          clear yD_0 yD_1 yD_z yQ_0 yQ_1 yQ_z yQ_f0 yQ_f1 yR_0 yR_1 yR_z yR_f0 yR_f1
          generalize (w3.setCell ⟨(w.heap.size + 1 + 1), 0, none⟩ (.int .u64 (hiW (2 * Q)))).setCell ⟨(w.heap.size + 1 + 1), 1, none⟩ (.int .u64 (loW (2 * Q))) = w4 at *
          simp only [List.set] at KQ
          refine (CM.out _).mono ?_
          rintro e5 w5 ⟨rfl, hb5⟩
          replace HB := hT HB hb5
          replace KS := hK KS hb5
          replace KD := hK KD hb5
          replace KQ := hK KQ hb5
          replace KR := hK KR hb5
          clear hb5
          obtain ⟨yD_0, yD_1, yD_z⟩ := blk2 KD
          obtain ⟨yQ_0, yQ_1, yQ_z, yQ_f0, yQ_f1⟩ := blf2 KQ
          obtain ⟨yR_0, yR_1, yR_z, yR_f0, yR_f1⟩ := blf2 KR
          go_wp2_with fail
          refine (LS2.out _).mono ?_
          rintro e6 w6 ⟨rfl, hb6⟩
          replace HB := hT HB hb6
          replace KS := hK KS hb6
          replace KD := hK KD hb6
          replace KQ := hK KQ hb6
          replace KR := hK KR hb6
          clear yD_0 yD_1 yD_z yQ_0 yQ_1 yQ_z yQ_f0 yQ_f1 yR_0 yR_1 yR_z yR_f0 yR_f1
          clear hb6
          obtain ⟨yQ_0, yQ_1, yQ_z, yQ_f0, yQ_f1⟩ := blf2 KQ
          obtain ⟨yR_0, yR_1, yR_z, yR_f0, yR_f1⟩ := blf2 KR
          go_wp2
          have hs := st2 w6 (w.heap.size + 1 + 1 + 1) 0 (.int .u64 (hiW (2 * R + b - dd))) 1 (.int .u64 (loW (2 * R + b - dd)))
          replace KS := oB hs KS (by omega)
          replace KD := oB hs KD (by omega)
          replace KQ := oB hs KQ (by omega)
          replace KR := Lib.hid (blk_set (blk_set KR.out (j := 0) (by simp) (.int .u64 (hiW (2 * R + b - dd)))) (j := 1) (by simp) (.int .u64 (loW (2 * R + b - dd))))
          replace HB := oH hs HB (by omega)
          clear hs
          clear yQ_0 yQ_1 yQ_z yQ_f0 yQ_f1 yR_0 yR_1 yR_z yR_f0 yR_f1
          generalize (w6.setCell ⟨(w.heap.size + 1 + 1 + 1), 0, none⟩ (.int .u64 (hiW (2 * R + b - dd)))).setCell ⟨(w.heap.size + 1 + 1 + 1), 1, none⟩ (.int .u64 (loW (2 * R + b - dd))) = w7 at *
          simp only [List.set] at KR
          have hs := st1 w7 (w.heap.size + 1 + 1) 1 (.int .u64 (loW (2 * Q + 1)))
          replace KS := oB hs KS (by omega)
          replace KD := oB hs KD (by omega)
          replace KQ := Lib.hid (blk_set KQ.out (j := 1) (by simp) (.int .u64 (loW (2 * Q + 1))))
          replace KR := oB hs KR (by omega)
          replace HB := oH hs HB (by omega)
          clear hs
          generalize w7.setCell ⟨(w.heap.size + 1 + 1), 1, none⟩ (.int .u64 (loW (2 * Q + 1))) = w8 at *
          simp only [List.set] at KQ
          subst hd
          rw [O2.out] at KQ
          rw [← f1, HQ'.out] at KQ
          rw [← f2, HR'.out] at KR
          exact ⟨⟨_, _, rfl, Lib.hid (by omega), by omega, HB, KS, KD, KQ, KR⟩, by simp [intOf]; try omega⟩
        · have gc : decide (0 ≤ cmpI (2 * R + b) dd) = false := by unfold cmpI; rw [if_pos (by omega)]; decide
          clear LS f0
          generalize cmpI (2 * R + b) dd = c at *
          obtain ⟨yS_0, yS_1, yS_z⟩ := blk2 KS
          obtain ⟨yR_0, yR_1, yR_z, yR_f0, yR_f1⟩ := blf2 KR
          go_wp2_with fail
          refine (TW.out _).mono ?_
          rintro e1 w1 ⟨rfl, hb1⟩
          replace HB := hT HB hb1
          replace KS := hK KS hb1
          replace KD := hK KD hb1
          replace KQ := hK KQ hb1
          replace KR := hK KR hb1
          clear yS_0 yS_1 yS_z yR_0 yR_1 yR_z yR_f0 yR_f1
          clear hb1
          obtain ⟨yQ_0, yQ_1, yQ_z, yQ_f0, yQ_f1⟩ := blf2 KQ
          obtain ⟨yR_0, yR_1, yR_z, yR_f0, yR_f1⟩ := blf2 KR
          go_wp2_with fail
          have hs := st2 w1 (w.heap.size + 1 + 1 + 1) 0 (.int .u64 (hiW (2 * R + b))) 1 (.int .u64 (loW (2 * R + b)))
          replace KS := oB hs KS (by omega)
          replace KD := oB hs KD (by omega)
          replace KQ := oB hs KQ (by omega)
          replace KR := Lib.hid (blk_set (blk_set KR.out (j := 0) (by simp) (.int .u64 (hiW (2 * R + b)))) (j := 1) (by simp) (.int .u64 (loW (2 * R + b))))
          replace HB := oH hs HB (by omega)
          clear hs
          clear yQ_0 yQ_1 yQ_z yQ_f0 yQ_f1 yR_0 yR_1 yR_z yR_f0 yR_f1
          generalize (w1.setCell ⟨(w.heap.size + 1 + 1 + 1), 0, none⟩ (.int .u64 (hiW (2 * R + b)))).setCell ⟨(w.heap.size + 1 + 1 + 1), 1, none⟩ (.int .u64 (loW (2 * R + b))) = w2 at *
          simp only [List.set] at KR
          refine (TQ.out _).mono ?_
          rintro e3 w3 ⟨rfl, hb3⟩
          replace HB := hT HB hb3
          replace KS := hK KS hb3
          replace KD := hK KD hb3
          replace KQ := hK KQ hb3
          replace KR := hK KR hb3
          clear hb3
          obtain ⟨yD_0, yD_1, yD_z⟩ := blk2 KD
          obtain ⟨yQ_0, yQ_1, yQ_z, yQ_f0, yQ_f1⟩ := blf2 KQ
          obtain ⟨yR_0, yR_1, yR_z, yR_f0, yR_f1⟩ := blf2 KR
          go_wp2_with fail
          have hs := st2 w3 (w.heap.size + 1 + 1) 0 (.int .u64 (hiW (2 * Q))) 1 (.int .u64 (loW (2 * Q)))
          replace KS := oB hs KS (by omega)
          replace KD := oB hs KD (by omega)
          replace KQ := Lib.hid (blk_set (blk_set KQ.out (j := 0) (by simp) (.int .u64 (hiW (2 * Q)))) (j := 1) (by simp) (.int .u64 (loW (2 * Q))))
          replace KR := oB hs KR (by omega)
          replace HB := oH hs HB (by omega)
          clear hs
          clear yD_0 yD_1 yD_z yQ_0 yQ_1 yQ_z yQ_f0 yQ_f1 yR_0 yR_1 yR_z yR_f0 yR_f1
          generalize (w3.setCell ⟨(w.heap.size + 1 + 1), 0, none⟩ (.int .u64 (hiW (2 * Q)))).setCell ⟨(w.heap.size + 1 + 1), 1, none⟩ (.int .u64 (loW (2 * Q))) = w4 at *
          simp only [List.set] at KQ
          refine (CM.out _).mono ?_
          rintro e5 w5 ⟨rfl, hb5⟩
          replace HB := hT HB hb5
          replace KS := hK KS hb5
          replace KD := hK KD hb5
          replace KQ := hK KQ hb5
          replace KR := hK KR hb5
          clear hb5
          obtain ⟨yD_0, yD_1, yD_z⟩ := blk2 KD
          obtain ⟨yQ_0, yQ_1, yQ_z, yQ_f0, yQ_f1⟩ := blf2 KQ
          obtain ⟨yR_0, yR_1, yR_z, yR_f0, yR_f1⟩ := blf2 KR
          go_wp2
          clear yD_0 yD_1 yD_z yQ_0 yQ_1 yQ_z yQ_f0 yQ_f1 yR_0 yR_1 yR_z yR_f0 yR_f1
          subst hd
          skip
          rw [← f1, HQ'.out] at KQ
          rw [← f2, HR'.out] at KR
          exact ⟨⟨_, _, rfl, Lib.hid (by omega), by omega, HB, KS, KD, KQ, KR⟩, by simp [intOf]; try omega⟩
      · obtain ⟨j, rfl⟩ : ∃ j, i = j + 64 := ⟨i - 64, by omega⟩
        have A : bits .and .i64 ((j : Int) + 64) 63 = (j : Int) := by rw [show ((j : Int) + 64) = ((j + 64 : Nat) : Int) by omega, A63]; omega
        have BT : bits .and .u64 (hiW (N : Int) / 2 ^ j) 1 = b := by rw [eb0.out]; have := BH1; rwa [show j + 64 - 64 = j by omega] at this
        simp only [Int.natCast_add, Int.cast_ofNat_Int] at g0
        have g64 : decide (64 ≤ (j : Int) + 64) = true := decide_eq_true (by omega)
        clear BL1 BH1 A63 h64
        rcases fin with ⟨f0, f1, f2⟩ | ⟨f0, f1, f2⟩
        · have LS2 := Lib.hid (LS.out f0)
          have gc : decide (0 ≤ cmpI (2 * R + b) dd) = true := by unfold cmpI; rw [if_neg (by omega)]; split <;> decide
          clear LS f0
          generalize cmpI (2 * R + b) dd = c at *
          obtain ⟨yS_0, yS_1, yS_z⟩ := blk2 KS
          obtain ⟨yR_0, yR_1, yR_z, yR_f0, yR_f1⟩ := blf2 KR
          go_wp2_with fail
          refine (TW.out _).mono ?_
          rintro e1 w1 ⟨rfl, hb1⟩
          replace HB := hT HB hb1
          replace KS := hK KS hb1
          replace KD := hK KD hb1
          replace KQ := hK KQ hb1
          replace KR := hK KR hb1
          clear yS_0 yS_1 yS_z yR_0 yR_1 yR_z yR_f0 yR_f1
          clear hb1
          obtain ⟨yQ_0, yQ_1, yQ_z, yQ_f0, yQ_f1⟩ := blf2 KQ
          obtain ⟨yR_0, yR_1, yR_z, yR_f0, yR_f1⟩ := blf2 KR
          go_wp2_with fail
          have hs := st2 w1 (w.heap.size + 1 + 1 + 1) 0 (.int .u64 (hiW (2 * R + b))) 1 (.int .u64 (loW (2 * R + b)))
          replace KS := oB hs KS (by omega)
          replace KD := oB hs KD (by omega)
          replace KQ := oB hs KQ (by omega)
          replace KR := Lib.hid (blk_set (blk_set KR.out (j := 0) (by simp) (.int .u64 (hiW (2 * R + b)))) (j := 1) (by simp) (.int .u64 (loW (2 * R + b))))
          replace HB := oH hs HB (by omega)
          clear hs
          clear yQ_0 yQ_1 yQ_z yQ_f0 yQ_f1 yR_0 yR_1 yR_z yR_f0 yR_f1
          generalize (w1.setCell ⟨(w.heap.size + 1 + 1 + 1), 0, none⟩ (.int .u64 (hiW (2 * R + b)))).setCell ⟨(w.heap.size + 1 + 1 + 1), 1, none⟩ (.int .u64 (loW (2 * R + b))) = w2 at *
          simp only [List.set] at KR
          refine (TQ.out _).mono ?_
          rintro e3 w3 ⟨rfl, hb3⟩
          replace HB := hT HB hb3
          replace KS := hK KS hb3
          replace KD := hK KD hb3
          replace KQ := hK KQ hb3
          replace KR := hK KR hb3
          clear hb3
          obtain ⟨yD_0, yD_1, yD_z⟩ := blk2 KD
          obtain ⟨yQ_0, yQ_1, yQ_z, yQ_f0, yQ_f1⟩ := blf2 KQ
          obtain ⟨yR_0, yR_1, yR_z, yR_f0, yR_f1⟩ := blf2 KR
          go_wp2_with fail
          have hs := st2 w3 (w.heap.size + 1 + 1) 0 (.int .u64 (hiW (2 * Q))) 1 (.int .u64 (loW (2 * Q)))
          replace KS := oB hs KS (by omega)
          replace KD := oB hs KD (by omega)
          replace KQ := Lib.hid (blk_set (blk_set KQ.out (j := 0) (by simp) (.int .u64 (hiW (2 * Q)))) (j := 1) (by simp) (.int .u64 (loW (2 * Q))))
          replace KR := oB hs KR (by omega)
          replace HB := oH hs HB (by omega)
          clear hs
          clear yD_0 yD_1 yD_z yQ_0 yQ_1 yQ_z yQ_f0 yQ_f1 yR_0 yR_1 yR_z yR_f0 yR_f1
          generalize (w3.setCell ⟨(w.heap.size + 1 + 1), 0, none⟩ (.int .u64 (hiW (2 * Q)))).setCell ⟨(w.heap.size + 1 + 1), 1, none⟩ (.int .u64 (loW (2 * Q))) = w4 at *
          simp only [List.set] at KQ
          refine (CM.out _).mono ?_
          rintro e5 w5 ⟨rfl, hb5⟩
          replace HB := hT HB hb5
          replace KS := hK KS hb5
          replace KD := hK KD hb5
          replace KQ := hK KQ hb5
          replace KR := hK KR hb5
          clear hb5
          obtain ⟨yD_0, yD_1, yD_z⟩ := blk2 KD
          obtain ⟨yQ_0, yQ_1, yQ_z, yQ_f0, yQ_f1⟩ := blf2 KQ
          obtain ⟨yR_0, yR_1, yR_z, yR_f0, yR_f1⟩ := blf2 KR
          go_wp2_with fail
          refine (LS2.out _).mono ?_
          rintro e6 w6 ⟨rfl, hb6⟩
          replace HB := hT HB hb6
          replace KS := hK KS hb6
          replace KD := hK KD hb6
          replace KQ := hK KQ hb6
          replace KR := hK KR hb6
          clear yD_0 yD_1 yD_z yQ_0 yQ_1 yQ_z yQ_f0 yQ_f1 yR_0 yR_1 yR_z yR_f0 yR_f1
          clear hb6
          obtain ⟨yQ_0, yQ_1, yQ_z, yQ_f0, yQ_f1⟩ := blf2 KQ
          obtain ⟨yR_0, yR_1, yR_z, yR_f0, yR_f1⟩ := blf2 KR
          go_wp2
          have hs := st2 w6 (w.heap.size + 1 + 1 + 1) 0 (.int .u64 (hiW (2 * R + b - dd))) 1 (.int .u64 (loW (2 * R + b - dd)))
          replace KS := oB hs KS (by omega)
          replace KD := oB hs KD (by omega)
          replace KQ := oB hs KQ (by omega)
          replace KR := Lib.hid (blk_set (blk_set KR.out (j := 0) (by simp) (.int .u64 (hiW (2 * R + b - dd)))) (j := 1) (by simp) (.int .u64 (loW (2 * R + b - dd))))
          replace HB := oH hs HB (by omega)
          clear hs
          clear yQ_0 yQ_1 yQ_z yQ_f0 yQ_f1 yR_0 yR_1 yR_z yR_f0 yR_f1
          generalize (w6.setCell ⟨(w.heap.size + 1 + 1 + 1), 0, none⟩ (.int .u64 (hiW (2 * R + b - dd)))).setCell ⟨(w.heap.size + 1 + 1 + 1), 1, none⟩ (.int .u64 (loW (2 * R + b - dd))) = w7 at *
          simp only [List.set] at KR
          have hs := st1 w7 (w.heap.size + 1 + 1) 1 (.int .u64 (loW (2 * Q + 1)))
          replace KS := oB hs KS (by omega)
          replace KD := oB hs KD (by omega)
          replace KQ := Lib.hid (blk_set KQ.out (j := 1) (by simp) (.int .u64 (loW (2 * Q + 1))))
          replace KR := oB hs KR (by omega)
          replace HB := oH hs HB (by omega)
          clear hs
          generalize w7.setCell ⟨(w.heap.size + 1 + 1), 1, none⟩ (.int .u64 (loW (2 * Q + 1))) = w8 at *
          simp only [List.set] at KQ
          subst hd
          rw [O2.out] at KQ
          rw [← f1, HQ'.out] at KQ
          rw [← f2, HR'.out] at KR
          exact ⟨⟨_, _, rfl, Lib.hid (by omega), by omega, HB, KS, KD, KQ, KR⟩, by simp [intOf]; try omega⟩
        · have gc : decide (0 ≤ cmpI (2 * R + b) dd) = false := by unfold cmpI; rw [if_pos (by omega)]; decide
          clear LS f0
          generalize cmpI (2 * R + b) dd = c at *
          obtain ⟨yS_0, yS_1, yS_z⟩ := blk2 KS
          obtain ⟨yR_0, yR_1, yR_z, yR_f0, yR_f1⟩ := blf2 KR
          go_wp2_with fail
          refine (TW.out _).mono ?_
          rintro e1 w1 ⟨rfl, hb1⟩
          replace HB := hT HB hb1
          replace KS := hK KS hb1
          replace KD := hK KD hb1
          replace KQ := hK KQ hb1
          replace KR := hK KR hb1
          clear yS_0 yS_1 yS_z yR_0 yR_1 yR_z yR_f0 yR_f1
          clear hb1
          obtain ⟨yQ_0, yQ_1, yQ_z, yQ_f0, yQ_f1⟩ := blf2 KQ
          obtain ⟨yR_0, yR_1, yR_z, yR_f0, yR_f1⟩ := blf2 KR
          go_wp2_with fail
          have hs := st2 w1 (w.heap.size + 1 + 1 + 1) 0 (.int .u64 (hiW (2 * R + b))) 1 (.int .u64 (loW (2 * R + b)))
          replace KS := oB hs KS (by omega)
          replace KD := oB hs KD (by omega)
          replace KQ := oB hs KQ (by omega)
          replace KR := Lib.hid (blk_set (blk_set KR.out (j := 0) (by simp) (.int .u64 (hiW (2 * R + b)))) (j := 1) (by simp) (.int .u64 (loW (2 * R + b))))
          replace HB := oH hs HB (by omega)
          clear hs
          clear yQ_0 yQ_1 yQ_z yQ_f0 yQ_f1 yR_0 yR_1 yR_z yR_f0 yR_f1
          generalize (w1.setCell ⟨(w.heap.size + 1 + 1 + 1), 0, none⟩ (.int .u64 (hiW (2 * R + b)))).setCell ⟨(w.heap.size + 1 + 1 + 1), 1, none⟩ (.int .u64 (loW (2 * R + b))) = w2 at *
          simp only [List.set] at KR
          refine (TQ.out _).mono ?_
          rintro e3 w3 ⟨rfl, hb3⟩
          replace HB := hT HB hb3
          replace KS := hK KS hb3
          replace KD := hK KD hb3
          replace KQ := hK KQ hb3
          replace KR := hK KR hb3
          clear hb3
          obtain ⟨yD_0, yD_1, yD_z⟩ := blk2 KD
          obtain ⟨yQ_0, yQ_1, yQ_z, yQ_f0, yQ_f1⟩ := blf2 KQ
          obtain ⟨yR_0, yR_1, yR_z, yR_f0, yR_f1⟩ := blf2 KR
          go_wp2_with fail
          have hs := st2 w3 (w.heap.size + 1 + 1) 0 (.int .u64 (hiW (2 * Q))) 1 (.int .u64 (loW (2 * Q)))
          replace KS := oB hs KS (by omega)
          replace KD := oB hs KD (by omega)
          replace KQ := Lib.hid (blk_set (blk_set KQ.out (j := 0) (by simp) (.int .u64 (hiW (2 * Q)))) (j := 1) (by simp) (.int .u64 (loW (2 * Q))))
          replace KR := oB hs KR (by omega)
          replace HB := oH hs HB (by omega)
          clear hs
          clear yD_0 yD_1 yD_z yQ_0 yQ_1 yQ_z yQ_f0 yQ_f1 yR_0 yR_1 yR_z yR_f0 yR_f1
          generalize (w3.setCell ⟨(w.heap.size + 1 + 1), 0, none⟩ (.int .u64 (hiW (2 * Q)))).setCell ⟨(w.heap.size + 1 + 1), 1, none⟩ (.int .u64 (loW (2 * Q))) = w4 at *
          simp only [List.set] at KQ
          refine (CM.out _).mono ?_
          rintro e5 w5 ⟨rfl, hb5⟩
          replace HB := hT HB hb5
          replace KS := hK KS hb5
          replace KD := hK KD hb5
          replace KQ := hK KQ hb5
          replace KR := hK KR hb5
          clear hb5
          obtain ⟨yD_0, yD_1, yD_z⟩ := blk2 KD
          obtain ⟨yQ_0, yQ_1, yQ_z, yQ_f0, yQ_f1⟩ := blf2 KQ
          obtain ⟨yR_0, yR_1, yR_z, yR_f0, yR_f1⟩ := blf2 KR
          go_wp2
          clear yD_0 yD_1 yD_z yQ_0 yQ_1 yQ_z yQ_f0 yQ_f1 yR_0 yR_1 yR_z yR_f0 yR_f1
          subst hd
          skip
          rw [← f1, HQ'.out] at KQ
          rw [← f2, HR'.out] at KR
          exact ⟨⟨_, _, rfl, Lib.hid (by omega), by omega, HB, KS, KD, KQ, KR⟩, by simp [intOf]; try omega⟩
end Go.Proofs.YtidelghgjibndaaGreat
namespace Go.Proofs.YtidelghgjibndaaGreat
set_option linter.unusedVariables false
theorem em_eq (n d : Int) : n = d * (n / d) + n % d := (Int.mul_ediv_add_emod n d).symm
theorem up_pos {x d : Int} (hd : 0 < d) : ceilI x d = x / d + (if x % d ≠ 0 then 1 else 0) := by
  have h0 := Int.emod_nonneg x (show d ≠ 0 by omega)
  have h1 := Int.emod_lt_of_pos x hd
  by_cases h : x % d = 0
  · rw [if_neg (by omega), Int.add_zero]
    exact ceil_pos0 hd (em_eq x d) h
  · rw [if_pos h]
    exact ceil_pos hd (em_eq x d) (by omega) h1
theorem near_posW {x d : Int} (hd : 0 < d) : nearI2 x d = x / d + (if d - x % d ≤ x % d then 1 else 0) := by
  have h0 := Int.emod_nonneg x (show d ≠ 0 by omega)
  have h1 := Int.emod_lt_of_pos x hd
  by_cases h : d - x % d ≤ x % d
  · rw [if_pos h]
    exact near_pos1 hd (em_eq x d) h h1
  · rw [if_neg h, Int.add_zero]
    exact near_pos0 hd (em_eq x d) h0 (by omega)
theorem near_negW {x d : Int} (hd : 0 < d) : nearI2 x d = -((-x) / d + (if d - (-x) % d < (-x) % d then 1 else 0)) := by
  have h0 := Int.emod_nonneg (-x) (show d ≠ 0 by omega)
  have h1 := Int.emod_lt_of_pos (-x) hd
  by_cases h : d - (-x) % d < (-x) % d
  · rw [if_pos h]
    have := near_neg1 (n := -x) hd (em_eq (-x) d) h h1
    rwa [Int.neg_neg] at this
  · rw [if_neg h, Int.add_zero]
    have := near_neg0 (n := -x) hd (em_eq (-x) d) h0 (by omega)
    rwa [Int.neg_neg] at this
end Go.Proofs.YtidelghgjibndaaGreat
