/-
  Of the text SnRowsBase: what is wanted here.
-/
import Derived.Test.YtidelghgjibndaaGreatN7SnSensorThree
import Derived.Test.YtidelghgjibndaaGreatSnRowsPlain
import Derived.Test.YtidelghgjibndaaGreatN7SnFixWraps41
import Derived.Deep.DeepCutAuto
import Derived.Deep.RegionWith
import Derived.BigRegion
namespace Go.Proofs.YtidelghgjibndaaGreat.S41
set_option linter.unusedVariables false
open Go.RowKit Tr Sq
/-- a block holds six numbers, and may be written -/
def Six (w : World) (b : Nat) (m : Ms) : Prop :=
  (w.cell? ⟨b, 0, none⟩ = some (.int .i64 m.s) ∧ w.cell? ⟨b, 1, none⟩ = some (.int .i64 m.a) ∧ w.cell? ⟨b, 2, none⟩ = some (.int .i64 m.b) ∧ w.cell? ⟨b, 3, none⟩ = some (.int .i64 m.z) ∧ w.cell? ⟨b, 4, none⟩ = some (.int .i64 m.d) ∧ w.cell? ⟨b, 5, none⟩ = some (.int .i64 m.w)) ∧
  (w.frozen? ⟨b, 0, none⟩ = false ∧ w.frozen? ⟨b, 1, none⟩ = false ∧ w.frozen? ⟨b, 2, none⟩ = false ∧ w.frozen? ⟨b, 3, none⟩ = false ∧ w.frozen? ⟨b, 4, none⟩ = false ∧ w.frozen? ⟨b, 5, none⟩ = false)
def RepIs (w : World) (h : Nat) (s k x y v b wt t : Int) : Prop := w.cell? ⟨h, 0, none⟩ = some (.int .i64 s) ∧ w.cell? ⟨h, 1, none⟩ = some (.int .u8 k) ∧ w.cell? ⟨h, 2, none⟩ = some (.int .i64 x) ∧ w.cell? ⟨h, 3, none⟩ = some (.int .i64 y) ∧ w.cell? ⟨h, 4, none⟩ = some (.int .i64 v) ∧ w.cell? ⟨h, 5, none⟩ = some (.int .i64 b) ∧ w.cell? ⟨h, 6, none⟩ = some (.int .i64 wt) ∧ w.cell? ⟨h, 7, none⟩ = some (.int .i64 t)
def BoxIs (w : World) (h : Nat) (cx cy bx b2 : Int) : Prop := w.cell? ⟨h, 0, none⟩ = some (.int .i64 cx) ∧ w.cell? ⟨h, 1, none⟩ = some (.int .i64 cy) ∧ w.cell? ⟨h, 2, none⟩ = some (.int .i64 bx) ∧ w.cell? ⟨h, 3, none⟩ = some (.int .i64 b2)
theorem RepIs.keep {w w' : World} {h B : Nat} {s k x y v b wt t : Int} (hr : RepIs w h s k x y v b wt t) (hb : Below B w w') (hl : h < B) : RepIs w' h s k x y v b wt t := by
  obtain ⟨a0, a1, a2, a3, a4, a5, a6, a7⟩ := hr
  exact ⟨(hb.cell (p := ⟨h, 0, none⟩) hl).trans a0, (hb.cell (p := ⟨h, 1, none⟩) hl).trans a1, (hb.cell (p := ⟨h, 2, none⟩) hl).trans a2, (hb.cell (p := ⟨h, 3, none⟩) hl).trans a3, (hb.cell (p := ⟨h, 4, none⟩) hl).trans a4, (hb.cell (p := ⟨h, 5, none⟩) hl).trans a5, (hb.cell (p := ⟨h, 6, none⟩) hl).trans a6, (hb.cell (p := ⟨h, 7, none⟩) hl).trans a7⟩
theorem BoxIs.keep {w w' : World} {h B : Nat} {cx cy bx b2 : Int} (hr : BoxIs w h cx cy bx b2) (hb : Below B w w') (hl : h < B) : BoxIs w' h cx cy bx b2 := by
  obtain ⟨a0, a1, a2, a3⟩ := hr
  exact ⟨(hb.cell (p := ⟨h, 0, none⟩) hl).trans a0, (hb.cell (p := ⟨h, 1, none⟩) hl).trans a1, (hb.cell (p := ⟨h, 2, none⟩) hl).trans a2, (hb.cell (p := ⟨h, 3, none⟩) hl).trans a3⟩
theorem Six.keep {w w' : World} {h B : Nat} {m : Ms} (hr : Six w h m) (hb : Below B w w') (hl : h < B) : Six w' h m := by
  obtain ⟨⟨a0, a1, a2, a3, a4, a5⟩, f0, f1, f2, f3, f4, f5⟩ := hr
  exact ⟨⟨(hb.cell (p := ⟨h, 0, none⟩) hl).trans a0, (hb.cell (p := ⟨h, 1, none⟩) hl).trans a1, (hb.cell (p := ⟨h, 2, none⟩) hl).trans a2, (hb.cell (p := ⟨h, 3, none⟩) hl).trans a3, (hb.cell (p := ⟨h, 4, none⟩) hl).trans a4, (hb.cell (p := ⟨h, 5, none⟩) hl).trans a5⟩,
    (hb.frozen (p := ⟨h, 0, none⟩) hl).trans f0, (hb.frozen (p := ⟨h, 1, none⟩) hl).trans f1, (hb.frozen (p := ⟨h, 2, none⟩) hl).trans f2, (hb.frozen (p := ⟨h, 3, none⟩) hl).trans f3, (hb.frozen (p := ⟨h, 4, none⟩) hl).trans f4, (hb.frozen (p := ⟨h, 5, none⟩) hl).trans f5⟩
def Pair2 (w : World) (c : Nat) (u v : Int) : Prop := w.cell? ⟨c, 0, none⟩ = some (.int .i64 u) ∧ w.cell? ⟨c, 1, none⟩ = some (.int .i64 v) ∧ w.frozen? ⟨c, 0, none⟩ = false ∧ w.frozen? ⟨c, 1, none⟩ = false
theorem Pair2.keep {w w' : World} {h B : Nat} {u v : Int} (hr : Pair2 w h u v) (hb : Below B w w') (hl : h < B) : Pair2 w' h u v := by
  obtain ⟨a0, a1, f0, f1⟩ := hr
  exact ⟨(hb.cell (p := ⟨h, 0, none⟩) hl).trans a0, (hb.cell (p := ⟨h, 1, none⟩) hl).trans a1, (hb.frozen (p := ⟨h, 0, none⟩) hl).trans f0, (hb.frozen (p := ⟨h, 1, none⟩) hl).trans f1⟩
theorem pair_new (w : World) (u v : Int) (t : TypeId) : Pair2 (w.alloc (.cells #[.int .i64 u, .int .i64 v] t)).drew w.heap.size u v := by
  unfold Pair2
  refine ⟨?_, ?_, ?_, ?_⟩ <;> go_simp
theorem lt_new (w : World) (o : Obj) : w.heap.size < (w.alloc o).drew.heap.size := by simp
/-- the centre's copy and the radius, behind the region that makes them -/
def Mid (w3 : World) (K cx cy : Int) (s8 s9 : Value) (wx : World) : Prop := ∃ c : Nat, s8 = .pointer (some ⟨c, 0, none⟩) ∧ s9 = .int .i64 K ∧ w3.heap.size ≤ c ∧ c < wx.heap.size ∧ wx.cell? ⟨c, 0, none⟩ = some (.int .i64 cx) ∧ wx.cell? ⟨c, 1, none⟩ = some (.int .i64 cy) ∧ Below w3.heap.size w3 wx
def Two (w6 : World) (m : Ms) (s11 s12 : Value) (wx : World) : Prop := ∃ p q : Nat, s11 = .pointer (some ⟨p, 0, none⟩) ∧ s12 = .pointer (some ⟨q, 0, none⟩) ∧ p ≠ q ∧ w6.heap.size ≤ p ∧ w6.heap.size ≤ q ∧ p < wx.heap.size ∧ q < wx.heap.size ∧ Six wx p m ∧ Six wx q m ∧ Below w6.heap.size w6 wx
theorem Six.drew {w : World} {b : Nat} {m : Ms} (h : Six w b m) : Six w.drew b m := by
  obtain ⟨⟨a0, a1, a2, a3, a4, a5⟩, f0, f1, f2, f3, f4, f5⟩ := h
  exact ⟨⟨by simpa using a0, by simpa using a1, by simpa using a2, by simpa using a3, by simpa using a4, by simpa using a5⟩, by simpa using f0, by simpa using f1, by simpa using f2, by simpa using f3, by simpa using f4, by simpa using f5⟩
theorem Two.drew {w6 wx : World} {m : Ms} {a b : Value} (h : Two w6 m a b wx) : Two w6 m a b wx.drew := by
  obtain ⟨p, q, h0, h1, h2, h3, h4, h5, h6, h7, h8, h9⟩ := h
  exact ⟨p, q, h0, h1, h2, h3, h4, by simpa using h5, by simpa using h6, h7.drew, h8.drew, h9.drew⟩
theorem two_six (w : World) (m : Ms) (t : TypeId) : Six ((w.alloc (.cells #[.int .i64 m.s, .int .i64 m.a, .int .i64 m.b, .int .i64 m.z, .int .i64 m.d, .int .i64 m.w] t)).alloc (.cells #[.int .i64 m.s, .int .i64 m.a, .int .i64 m.b, .int .i64 m.z, .int .i64 m.d, .int .i64 m.w] t)) w.heap.size m ∧ Six ((w.alloc (.cells #[.int .i64 m.s, .int .i64 m.a, .int .i64 m.b, .int .i64 m.z, .int .i64 m.d, .int .i64 m.w] t)).alloc (.cells #[.int .i64 m.s, .int .i64 m.a, .int .i64 m.b, .int .i64 m.z, .int .i64 m.d, .int .i64 m.w] t)) (w.heap.size + 1) m := by
  constructor <;> (unfold Six; refine ⟨⟨?_, ?_, ?_, ?_, ?_, ?_⟩, ?_, ?_, ?_, ?_, ?_, ?_⟩ <;> go_simp)
theorem two_a (w : World) (s a b z d wt : Int) (t : TypeId) : Two w ⟨s, a, b, z, d, wt⟩ (.pointer (some ⟨w.heap.size, 0, none⟩)) (.pointer (some ⟨w.heap.size + 1, 0, none⟩)) ((w.alloc (.cells #[.int .i64 s, .int .i64 a, .int .i64 b, .int .i64 z, .int .i64 d, .int .i64 wt] t)).alloc (.cells #[.int .i64 s, .int .i64 a, .int .i64 b, .int .i64 z, .int .i64 d, .int .i64 wt] t)) :=
  ⟨w.heap.size, w.heap.size + 1, rfl, rfl, by omega, Nat.le_refl _, by omega, by simp; omega, by simp, (two_six w ⟨s, a, b, z, d, wt⟩ t).1, (two_six w ⟨s, a, b, z, d, wt⟩ t).2, ((Below.refl w.heap.size w).alloc (Nat.le_refl _) _).alloc (by simp) _⟩
theorem two_b (w : World) (s a b z d wt : Int) (t : TypeId) : Two w ⟨s, a, b, z, d, wt⟩ (.pointer (some ⟨w.heap.size + 1, 0, none⟩)) (.pointer (some ⟨w.heap.size, 0, none⟩)) ((w.alloc (.cells #[.int .i64 s, .int .i64 a, .int .i64 b, .int .i64 z, .int .i64 d, .int .i64 wt] t)).alloc (.cells #[.int .i64 s, .int .i64 a, .int .i64 b, .int .i64 z, .int .i64 d, .int .i64 wt] t)) :=
  ⟨w.heap.size + 1, w.heap.size, rfl, rfl, by omega, by omega, Nat.le_refl _, by simp, by simp; omega, (two_six w ⟨s, a, b, z, d, wt⟩ t).2, (two_six w ⟨s, a, b, z, d, wt⟩ t).1, ((Below.refl w.heap.size w).alloc (Nat.le_refl _) _).alloc (by simp) _⟩
theorem mid_a {w3 w4 : World} {K cx cy u v : Int} (hb : Below w3.heap.size w3 w4) (hz : w3.heap.size < w4.heap.size) (a0 : w4.cell? ⟨w3.heap.size, 0, none⟩ = some (.int .i64 u)) (a1 : w4.cell? ⟨w3.heap.size, 1, none⟩ = some (.int .i64 v)) (f0 : w4.frozen? ⟨w3.heap.size, 0, none⟩ = false) (f1 : w4.frozen? ⟨w3.heap.size, 1, none⟩ = false) :
    Mid w3 K cx cy (.pointer (some ⟨w3.heap.size, 0, none⟩)) (.int .i64 K) ((w4.setCell ⟨w3.heap.size, 0, none⟩ (.int .i64 cx)).setCell ⟨w3.heap.size, 1, none⟩ (.int .i64 cy)) := by
  refine ⟨w3.heap.size, rfl, rfl, Nat.le_refl _, by simp; omega, ?_, ?_, (hb.setCell (p := ⟨w3.heap.size, 0, none⟩) (Nat.le_refl _) _).setCell (p := ⟨w3.heap.size, 1, none⟩) (Nat.le_refl _) _⟩
  · go_simp
  · go_simp
theorem mid_b {w3 w4 : World} {K cx cy : Int} (t : TypeId) (hb : Below w3.heap.size w3 w4) (hz : w3.heap.size ≤ w4.heap.size) :
    Mid w3 K cx cy (.pointer (some ⟨w4.heap.size, 0, none⟩)) (.int .i64 K) (w4.alloc (.cells #[.int .i64 cx, .int .i64 cy] t)) := by
  refine ⟨w4.heap.size, rfl, rfl, hz, by simp, ?_, ?_, hb.alloc hz _⟩
  · rw [World.cell?_alloc_at _ _ _ _ (by simp)]; rfl
  · rw [World.cell?_alloc_at _ _ _ _ (by simp)]; rfl
theorem mid_c {w3 w4 : World} {K cx cy : Int} (hb : Below w3.heap.size w3 w4) (hz : w3.heap.size < w4.heap.size) (a0 : w4.cell? ⟨w3.heap.size, 0, none⟩ = some (.int .i64 cx)) (a1 : w4.cell? ⟨w3.heap.size, 1, none⟩ = some (.int .i64 cy)) :
    Mid w3 K cx cy (.pointer (some ⟨w3.heap.size, 0, none⟩)) (.int .i64 K) w4 := ⟨_, rfl, rfl, Nat.le_refl _, hz, a0, a1, hb⟩
theorem Mid.drew {w3 wx : World} {K cx cy : Int} {a b : Value} (h : Mid w3 K cx cy a b wx) : Mid w3 K cx cy a b wx.drew := by
  obtain ⟨c, h0, h1, h2, h3, h4, h5, h6⟩ := h
  exact ⟨c, h0, h1, h2, by simpa using h3, by simpa using h4, by simpa using h5, h6.drew⟩
def msV (m : Ms) : List Value := [.int .i64 m.s, .int .i64 m.a, .int .i64 m.b, .int .i64 m.z, .int .i64 m.d, .int .i64 m.w]
/-- a value is a slice of these measurements, in a block of its own -/
def RowsIs (w : World) (l : List Ms) (u : Value) (w' : World) : Prop :=
  (l = [] ∧ u = .slice none 0 0) ∨ ∃ k : Nat, l ≠ [] ∧ u = .slice (some ⟨k, 0, none⟩) l.length l.length ∧ w.heap.size ≤ k ∧ w'.heap[k]? = some (.cells (l.flatMap msV).toArray 59)
end Go.Proofs.YtidelghgjibndaaGreat.S41
