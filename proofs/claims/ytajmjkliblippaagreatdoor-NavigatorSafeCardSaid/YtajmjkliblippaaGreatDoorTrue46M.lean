/-
  The struct of a true position as parameter: opened to its integers and shut again.
-/
import Derived.Test.YtajmjkliblippaaGreatDoorM67
namespace Go.Proofs.YtajmjkliblippaaGreatDoor
set_option linter.unusedVariables false
open Go.ChangeShapes Go.WideShapes Go.ChangeAt Go.RowKit Go.Joins

theorem cells_of_truth : Tryz.prog.cellsOf 56 = 5 := by kernel_rfl

section
variable {H : Type} {enc : TypeId × Value → H} {W : World} {base : Nat} {spare : Nat → Bool} {held : Bool} {b0 : Nat}

set_option maxRecDepth 100000 in
theorem trod_truth {n : Nat} {c0 c1 c2 c3 c4 : Value} {y : DataW H × List MemPlace} (h : DataW.trod enc Tryz.prog W base spare held n 56 [c0, c1, c2, c3, c4] = some y) :
    ∃ a0 a1 a2 a3 a4 : Int, c0 = .int .i64 a0 ∧ c1 = .int .i64 a1 ∧ c2 = .int .i64 a2 ∧ c3 = .int .i64 a3 ∧ c4 = .int .i64 a4 ∧ y = (.agg [.agg [.lit (.int .i64 a0), .lit (.int .i64 a1)], .agg [.lit (.int .i64 a2), .lit (.int .i64 a3)], .lit (.int .i64 a4)], []) ∧ (Lit.int .i64 a0).wf = true ∧ (Lit.int .i64 a1).wf = true ∧ (Lit.int .i64 a2).wf = true ∧ (Lit.int .i64 a3).wf = true ∧ (Lit.int .i64 a4).wf = true := by
  obtain ⟨xs, m, _, hx, _, hlen, hg⟩ := DataW.trod_struct Tryz.underlying56 h
  match xs, hlen with
  | [y0, y1, y2], _ =>
    have h0 : DataW.trod enc Tryz.prog W base spare held m 23 (([c0, c1, c2, c3, c4].drop 0).take (Tryz.prog.cellsOf 23)) = some y0 := hg 0 _ rfl
    rw [cells_of_point] at h0
    have g0 : DataW.trod enc Tryz.prog W base spare held m 23 [c0, c1] = some y0 := h0
    have h1 : DataW.trod enc Tryz.prog W base spare held m 23 (([c0, c1, c2, c3, c4].drop 2).take (Tryz.prog.cellsOf 23)) = some y1 := hg 1 _ rfl
    rw [cells_of_point] at h1
    have g1 : DataW.trod enc Tryz.prog W base spare held m 23 [c2, c3] = some y1 := h1
    have h2 : DataW.trod enc Tryz.prog W base spare held m 3 (([c0, c1, c2, c3, c4].drop 4).take (Tryz.prog.cellsOf 3)) = some y2 := hg 2 _ rfl
    rw [cells_of_int] at h2
    have g2 : DataW.trod enc Tryz.prog W base spare held m 3 [c4] = some y2 := h2
    obtain ⟨a0, a1, rfl, rfl, r0, w0, w1⟩ := trod_point g0
    obtain ⟨a2, a3, rfl, rfl, r1, w2, w3⟩ := trod_point g1
    obtain ⟨a4, e4, r2, w4⟩ := DataW.trod_int Tryz.underlying3 g2
    obtain rfl : c4 = .int .i64 a4 := by simpa using e4
    subst r0 r1 r2
    exact ⟨a0, a1, a2, a3, a4, rfl, rfl, rfl, rfl, rfl, hx, w0, w1, w2, w3, w4⟩
set_option maxRecDepth 100000 in
theorem trod_truth_mk {a0 a1 a2 a3 a4 : Int} (m : Nat) (w0 : (Lit.int .i64 a0).wf = true) (w1 : (Lit.int .i64 a1).wf = true) (w2 : (Lit.int .i64 a2).wf = true) (w3 : (Lit.int .i64 a3).wf = true) (w4 : (Lit.int .i64 a4).wf = true) :
    DataW.trod enc Tryz.prog W base spare held (m + 3) 56 [.int .i64 a0, .int .i64 a1, .int .i64 a2, .int .i64 a3, .int .i64 a4] = some (.agg [.agg [.lit (.int .i64 a0), .lit (.int .i64 a1)], .agg [.lit (.int .i64 a2), .lit (.int .i64 a3)], .lit (.int .i64 a4)], []) := by
  have i0 := trod_point_mk (enc := enc) (W := W) (base := base) (spare := spare) (held := held) m w0 w1
  have i1 := trod_point_mk (enc := enc) (W := W) (base := base) (spare := spare) (held := held) m w2 w3
  have i2 := trod_int_mk (enc := enc) (w := W) (base := base) (spare := spare) (held := held) (m + 1) Tryz.underlying3 w4
  have := trod_struct_mk (enc := enc) (w := W) (base := base) (spare := spare) (held := held) (n := m + 2) (cs := [.int .i64 a0, .int .i64 a1, .int .i64 a2, .int .i64 a3, .int .i64 a4])
    (xs := [(.agg [.lit (.int .i64 a0), .lit (.int .i64 a1)], []), (.agg [.lit (.int .i64 a2), .lit (.int .i64 a3)], []), (.lit (.int .i64 a4), [])]) Tryz.underlying56 (by rw [cells_of_truth]; rfl)
    (by simp [cells_of_int, cells_of_point, i0, i1, i2])
  simpa using this
set_option maxRecDepth 100000 in
theorem open_truth {v : Value} {d : DataW H} {p : List MemPlace} (hv : Value.okWide Tryz.prog W .any b0 56 v) (h : DataW.Trod enc Tryz.prog W base spare held 56 v d p) :
    ∃ a0 a1 a2 a3 a4 : Int, v = .agg #[.int .i64 a0, .int .i64 a1, .int .i64 a2, .int .i64 a3, .int .i64 a4] ∧ d = .agg [.agg [.lit (.int .i64 a0), .lit (.int .i64 a1)], .agg [.lit (.int .i64 a2), .lit (.int .i64 a3)], .lit (.int .i64 a4)] ∧ p = [] ∧ (Lit.int .i64 a0).wf = true ∧ (Lit.int .i64 a1).wf = true ∧ (Lit.int .i64 a2).wf = true ∧ (Lit.int .i64 a3).wf = true ∧ (Lit.int .i64 a4).wf = true := by
  obtain ⟨cs, rfl, hsz⟩ := okWide_struct Tryz.underlying56 hv
  obtain ⟨l⟩ := cs
  match l, hsz.trans cells_of_truth with
  | [c0, c1, c2, c3, c4], _ =>
    obtain ⟨fuel, hf⟩ := h
    have hf' : DataW.trod enc Tryz.prog W base spare held fuel 56 [c0, c1, c2, c3, c4] = some (d, p) := hf
    obtain ⟨a0, a1, a2, a3, a4, rfl, rfl, rfl, rfl, rfl, hy, w0, w1, w2, w3, w4⟩ := trod_truth hf'
    simp only [Prod.mk.injEq] at hy
    exact ⟨a0, a1, a2, a3, a4, rfl, hy.1, hy.2, w0, w1, w2, w3, w4⟩
set_option maxRecDepth 100000 in
theorem shut_truth {a0 a1 a2 a3 a4 : Int} (w0 : (Lit.int .i64 a0).wf = true) (w1 : (Lit.int .i64 a1).wf = true) (w2 : (Lit.int .i64 a2).wf = true) (w3 : (Lit.int .i64 a3).wf = true) (w4 : (Lit.int .i64 a4).wf = true) :
    DataW.Trod enc Tryz.prog W base spare held 56 (.agg #[.int .i64 a0, .int .i64 a1, .int .i64 a2, .int .i64 a3, .int .i64 a4]) (.agg [.agg [.lit (.int .i64 a0), .lit (.int .i64 a1)], .agg [.lit (.int .i64 a2), .lit (.int .i64 a3)], .lit (.int .i64 a4)]) [] :=
  ⟨3, trod_truth_mk (enc := enc) (W := W) (base := base) (spare := spare) (held := held) 0 w0 w1 w2 w3 w4⟩
end
end Go.Proofs.YtajmjkliblippaaGreatDoor
