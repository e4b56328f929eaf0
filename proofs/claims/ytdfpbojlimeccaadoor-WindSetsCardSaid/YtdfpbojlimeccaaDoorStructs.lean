/-
  Intervals, sets of winds and flights as parameters: nested structs by value, opened to their integers and shut again.
-/
import Derived.Test.YtdfpbojlimeccaaDoorFrame
namespace Go.Proofs.YtdfpbojlimeccaaDoor
set_option linter.unusedVariables false
open Go.ChangeShapes Go.WideShapes Go.ChangeAt Go.RowKit Go.Joins

theorem cellsInterval : Tryd.prog.cellsOf 30 = 2 := by kernel_rfl
theorem cellsInt64 : Tryd.prog.cellsOf 2 = 1 := by kernel_rfl
theorem cellsWindBox : Tryd.prog.cellsOf 34 = 4 := by kernel_rfl
theorem cellsFlight : Tryd.prog.cellsOf 32 = 5 := by kernel_rfl

section
variable {H : Type} {enc : TypeId × Value → H} {W : World} {base : Nat} {spare : Nat → Bool} {held : Bool} {b0 : Nat}

theorem trod_pair {t : TypeId} {f0 f1 : Field} {n : Nat} {v0 v1 : Value} {y : DataW H × List MemPlace} (ht : Tryd.prog.underlying t = some (.struct #[f0, f1]))
    (t0 : f0.type = 2) (t1 : f1.type = 2) (o0 : f0.offset = 0) (o1 : f1.offset = 1)
    (h : DataW.trod enc Tryd.prog W base spare held n t [v0, v1] = some y) :
    ∃ a b : Int, v0 = .int .i64 a ∧ v1 = .int .i64 b ∧ y = (.agg [.lit (.int .i64 a), .lit (.int .i64 b)], []) ∧ (Lit.int .i64 a).wf = true ∧ (Lit.int .i64 b).wf = true := by
  obtain ⟨y0, y1, m, rfl, _, h0, h1⟩ := trod_struct2 ht h
  rw [t0, o0, cellsInt64] at h0
  rw [t1, o1, cellsInt64] at h1
  obtain ⟨a, e0, rfl, wa⟩ := DataW.trod_int Tryd.underlying2 h0
  obtain ⟨b, e1, rfl, wb⟩ := DataW.trod_int Tryd.underlying2 h1
  simp at e0 e1
  subst e0 e1
  exact ⟨a, b, rfl, rfl, rfl, wa, wb⟩
theorem trod_pair_mk {t : TypeId} {f0 f1 : Field} {a b : Int} (m : Nat) (ht : Tryd.prog.underlying t = some (.struct #[f0, f1])) (hC : Tryd.prog.cellsOf t = 2)
    (t0 : f0.type = 2) (t1 : f1.type = 2) (o0 : f0.offset = 0) (o1 : f1.offset = 1) (wa : (Lit.int .i64 a).wf = true) (wb : (Lit.int .i64 b).wf = true) :
    DataW.trod enc Tryd.prog W base spare held (m + 2) t [.int .i64 a, .int .i64 b] = some (.agg [.lit (.int .i64 a), .lit (.int .i64 b)], []) := by
  have := trod_struct2_mk (enc := enc) (w := W) (base := base) (spare := spare) (held := held) (n := m + 1) (cs := [.int .i64 a, .int .i64 b]) (y0 := (.lit (.int .i64 a), [])) (y1 := (.lit (.int .i64 b), [])) ht (by rw [hC]; rfl)
    (by rw [t0, o0, cellsInt64]; exact trod_int_mk m Tryd.underlying2 wa) (by rw [t1, o1, cellsInt64]; exact trod_int_mk m Tryd.underlying2 wb)
  simpa using this

/-- an interval, by value -/
theorem open_interval {v : Value} {d : DataW H} {p : List MemPlace} (hv : Value.okWide Tryd.prog W .any b0 30 v) (h : DataW.Trod enc Tryd.prog W base spare held 30 v d p) :
    ∃ a b : Int, v = .agg #[.int .i64 a, .int .i64 b] ∧ d = .agg [.lit (.int .i64 a), .lit (.int .i64 b)] ∧ p = [] ∧ (Lit.int .i64 a).wf = true ∧ (Lit.int .i64 b).wf = true := by
  obtain ⟨cs, rfl, hsz⟩ := okWide_struct Tryd.underlying30 hv
  obtain ⟨l⟩ := cs
  match l, hsz.trans cellsInterval with
  | [c0, c1], _ =>
    obtain ⟨fuel, hf⟩ := h
    obtain ⟨a, b, rfl, rfl, hy, wa, wb⟩ := trod_pair Tryd.underlying30 rfl rfl rfl rfl (by simpa [Value.cells] using hf)
    simp only [Prod.mk.injEq] at hy
    exact ⟨a, b, rfl, hy.1, hy.2, wa, wb⟩
theorem shut_interval {a b : Int} (wa : (Lit.int .i64 a).wf = true) (wb : (Lit.int .i64 b).wf = true) :
    DataW.Trod enc Tryd.prog W base spare held 30 (.agg #[.int .i64 a, .int .i64 b]) (.agg [.lit (.int .i64 a), .lit (.int .i64 b)]) [] :=
  ⟨2, by simpa [Value.cells] using trod_pair_mk 0 Tryd.underlying30 cellsInterval rfl rfl rfl rfl wa wb⟩

/-- a set of winds, by value -/
theorem open_windbox {v : Value} {d : DataW H} {p : List MemPlace} (hv : Value.okWide Tryd.prog W .any b0 34 v) (h : DataW.Trod enc Tryd.prog W base spare held 34 v d p) :
    ∃ x0 x1 x2 x3 : Int, v = .agg #[.int .i64 x0, .int .i64 x1, .int .i64 x2, .int .i64 x3] ∧ d = .agg [.agg [.lit (.int .i64 x0), .lit (.int .i64 x1)], .agg [.lit (.int .i64 x2), .lit (.int .i64 x3)]] ∧ p = [] ∧
      (Lit.int .i64 x0).wf = true ∧ (Lit.int .i64 x1).wf = true ∧ (Lit.int .i64 x2).wf = true ∧ (Lit.int .i64 x3).wf = true := by
  obtain ⟨cs, rfl, hsz⟩ := okWide_struct Tryd.underlying34 hv
  obtain ⟨l⟩ := cs
  match l, hsz.trans cellsWindBox with
  | [c0, c1, c2, c3], _ =>
    obtain ⟨fuel, hf⟩ := h
    obtain ⟨y0, y1, m, hx, _, h0, h1⟩ := trod_struct2 Tryd.underlying34 hf
    simp only [cellsInterval] at h0 h1
    obtain ⟨a, b, rfl, rfl, rfl, wa, wb⟩ := trod_pair Tryd.underlying30 rfl rfl rfl rfl (by simpa [Value.cells] using h0)
    obtain ⟨a', b', rfl, rfl, rfl, wa', wb'⟩ := trod_pair Tryd.underlying30 rfl rfl rfl rfl (by simpa [Value.cells] using h1)
    simp only [Prod.mk.injEq] at hx
    exact ⟨a, b, a', b', rfl, hx.1, by simpa using hx.2, wa, wb, wa', wb'⟩
theorem shut_windbox {x0 x1 x2 x3 : Int} (w0 : (Lit.int .i64 x0).wf = true) (w1 : (Lit.int .i64 x1).wf = true) (w2 : (Lit.int .i64 x2).wf = true) (w3 : (Lit.int .i64 x3).wf = true) :
    DataW.Trod enc Tryd.prog W base spare held 34 (.agg #[.int .i64 x0, .int .i64 x1, .int .i64 x2, .int .i64 x3]) (.agg [.agg [.lit (.int .i64 x0), .lit (.int .i64 x1)], .agg [.lit (.int .i64 x2), .lit (.int .i64 x3)]]) [] := by
  have := trod_struct2_mk (enc := enc) (w := W) (base := base) (spare := spare) (held := held) (n := 2) (cs := [.int .i64 x0, .int .i64 x1, .int .i64 x2, .int .i64 x3]) (y0 := (.agg [.lit (.int .i64 x0), .lit (.int .i64 x1)], [])) (y1 := (.agg [.lit (.int .i64 x2), .lit (.int .i64 x3)], [])) Tryd.underlying34 (by rw [cellsWindBox]; rfl)
    (by simp only [cellsInterval]; exact trod_pair_mk 0 Tryd.underlying30 cellsInterval rfl rfl rfl rfl w0 w1) (by simp only [cellsInterval]; exact trod_pair_mk 0 Tryd.underlying30 cellsInterval rfl rfl rfl rfl w2 w3)
  exact ⟨3, by simpa [Value.cells] using this⟩

/-- a flight, by value -/
theorem open_flight {v : Value} {d : DataW H} {p : List MemPlace} (hv : Value.okWide Tryd.prog W .any b0 32 v) (h : DataW.Trod enc Tryd.prog W base spare held 32 v d p) :
    ∃ x0 x1 x2 x3 x4 : Int, v = .agg #[.int .i64 x0, .int .i64 x1, .int .i64 x2, .int .i64 x3, .int .i64 x4] ∧ d = .agg [.agg [.lit (.int .i64 x0), .lit (.int .i64 x1)], .lit (.int .i64 x2), .agg [.lit (.int .i64 x3), .lit (.int .i64 x4)]] ∧ p = [] ∧
      (Lit.int .i64 x0).wf = true ∧ (Lit.int .i64 x1).wf = true ∧ (Lit.int .i64 x2).wf = true ∧ (Lit.int .i64 x3).wf = true ∧ (Lit.int .i64 x4).wf = true := by
  obtain ⟨cs, rfl, hsz⟩ := okWide_struct Tryd.underlying32 hv
  obtain ⟨l⟩ := cs
  match l, hsz.trans cellsFlight with
  | [c0, c1, c2, c3, c4], _ =>
    obtain ⟨fuel, hf⟩ := h
    obtain ⟨xs, m, _, hx, _, hlen, hg⟩ := DataW.trod_struct Tryd.underlying32 hf
    match xs, hlen with
    | [y0, y1, y2], _ =>
      have h0 : DataW.trod enc Tryd.prog W base spare held m 30 (([c0, c1, c2, c3, c4].drop 0).take (Tryd.prog.cellsOf 30)) = some y0 := by simpa [Value.cells] using hg 0 _ rfl
      have h1 : DataW.trod enc Tryd.prog W base spare held m 2 (([c0, c1, c2, c3, c4].drop 2).take (Tryd.prog.cellsOf 2)) = some y1 := by simpa [Value.cells] using hg 1 _ rfl
      have h2 : DataW.trod enc Tryd.prog W base spare held m 23 (([c0, c1, c2, c3, c4].drop 3).take (Tryd.prog.cellsOf 23)) = some y2 := by simpa [Value.cells] using hg 2 _ rfl
      rw [cellsInterval] at h0
      rw [cellsInt64] at h1
      rw [cellsWind] at h2
      obtain ⟨a, b, rfl, rfl, e0, wa, wb⟩ := trod_pair Tryd.underlying30 rfl rfl rfl rfl (by simpa [Value.cells] using h0)
      obtain ⟨c, ec, e1, wc⟩ := DataW.trod_int Tryd.underlying2 (by simpa [Value.cells] using h1)
      obtain ⟨a', b', rfl, rfl, e2, wa', wb'⟩ := trod_pair Tryd.underlying23 rfl rfl rfl rfl (by simpa [Value.cells] using h2)
      simp at ec
      subst ec
      subst e0 e1 e2
      simp only [Prod.mk.injEq] at hx
      exact ⟨a, b, c, a', b', rfl, by simpa using hx.1, by simpa using hx.2, wa, wb, wc, wa', wb'⟩
theorem shut_flight {x0 x1 x2 x3 x4 : Int} (w0 : (Lit.int .i64 x0).wf = true) (w1 : (Lit.int .i64 x1).wf = true) (w2 : (Lit.int .i64 x2).wf = true) (w3 : (Lit.int .i64 x3).wf = true) (w4 : (Lit.int .i64 x4).wf = true) :
    DataW.Trod enc Tryd.prog W base spare held 32 (.agg #[.int .i64 x0, .int .i64 x1, .int .i64 x2, .int .i64 x3, .int .i64 x4]) (.agg [.agg [.lit (.int .i64 x0), .lit (.int .i64 x1)], .lit (.int .i64 x2), .agg [.lit (.int .i64 x3), .lit (.int .i64 x4)]]) [] := by
  have i0 := trod_pair_mk (enc := enc) (W := W) (base := base) (spare := spare) (held := held) 0 Tryd.underlying30 cellsInterval rfl rfl rfl rfl w0 w1
  have i1 := trod_int_mk (enc := enc) (w := W) (base := base) (spare := spare) (held := held) 1 Tryd.underlying2 w2
  have i2 := trod_pair_mk (enc := enc) (W := W) (base := base) (spare := spare) (held := held) 0 Tryd.underlying23 cellsWind rfl rfl rfl rfl w3 w4
  have := trod_struct_mk (enc := enc) (w := W) (base := base) (spare := spare) (held := held) (n := 2) (cs := [.int .i64 x0, .int .i64 x1, .int .i64 x2, .int .i64 x3, .int .i64 x4])
    (xs := [(.agg [.lit (.int .i64 x0), .lit (.int .i64 x1)], []), (.lit (.int .i64 x2), []), (.agg [.lit (.int .i64 x3), .lit (.int .i64 x4)], [])]) Tryd.underlying32 (by rw [cellsFlight]; rfl)
    (by simp [cellsInterval, cellsInt64, cellsWind, i0, i1, i2])
  exact ⟨3, by simpa [Value.cells] using this⟩
end
end Go.Proofs.YtdfpbojlimeccaaDoor
