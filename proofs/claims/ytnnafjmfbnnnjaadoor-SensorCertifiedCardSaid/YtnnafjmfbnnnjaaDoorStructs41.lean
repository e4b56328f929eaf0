/-
  Reports, boxes, points and arrays of them as parameters: opened to their integers and shut again.
-/
import Derived.Test.YtnnafjmfbnnnjaaDoorFrame41
namespace Go.Proofs.YtnnafjmfbnnnjaaDoor
set_option linter.unusedVariables false
open Go.ChangeShapes Go.WideShapes Go.ChangeAt Go.RowKit Go.Joins

theorem cells_of_int : Tryd.prog.cellsOf 3 = 1 := by kernel_rfl
theorem cells_of_api_ReportKind : Tryd.prog.cellsOf 22 = 1 := by kernel_rfl
theorem cells_of_int64 : Tryd.prog.cellsOf 2 = 1 := by kernel_rfl
theorem cells_of_point : Tryd.prog.cellsOf 24 = 2 := by kernel_rfl
theorem cells_of_report : Tryd.prog.cellsOf 26 = 8 := by kernel_rfl
theorem cells_of_box : Tryd.prog.cellsOf 32 = 4 := by kernel_rfl
theorem cells_of_points2 : Tryd.prog.cellsOf 48 = 4 := by kernel_rfl
theorem cells_of_ints2 : Tryd.prog.cellsOf 49 = 2 := by kernel_rfl

section
variable {H : Type} {enc : TypeId × Value → H} {W : World} {base : Nat} {spare : Nat → Bool} {held : Bool} {b0 : Nat}

theorem trod_array_mk {t : TypeId} {e k : Nat} {n : Nat} {cs : List Value} {xs : List (DataW H × List MemPlace)} {P : Program} {w : World} (ht : P.underlying t = some (.array k e)) (hl : cs.length = P.cellsOf t)
    (hp : (List.range k).mapM (fun i => DataW.trod enc P w base spare held n e ((cs.drop (i * P.cellsOf e)).take (P.cellsOf e))) = some xs) :
    DataW.trod enc P w base spare held (n + 1) t cs = some (.agg (xs.map (·.1)), xs.flatMap (·.2)) := by
  unfold DataW.trod
  rw [ht]
  split <;> simp_all
theorem okWide_arr {P : Program} {r : Reach} {t : TypeId} {k e : Nat} {v : Value} (hs : P.underlying t = some (.array k e)) (hv : Value.okWide P W r b0 t v) : ∃ cs, v = .agg cs ∧ cs.size = P.cellsOf t := by
  cases v <;> simp_all [Value.okWide]
set_option maxRecDepth 100000 in
theorem trod_point {n : Nat} {c0 c1 : Value} {y : DataW H × List MemPlace} (h : DataW.trod enc Tryd.prog W base spare held n 24 [c0, c1] = some y) :
    ∃ a0 a1 : Int, c0 = .int .i64 a0 ∧ c1 = .int .i64 a1 ∧ y = (.agg [.lit (.int .i64 a0), .lit (.int .i64 a1)], []) ∧ (Lit.int .i64 a0).wf = true ∧ (Lit.int .i64 a1).wf = true := by
  obtain ⟨xs, m, _, hx, _, hlen, hg⟩ := DataW.trod_struct Tryd.underlying24 h
  match xs, hlen with
  | [y0, y1], _ =>
    have h0 : DataW.trod enc Tryd.prog W base spare held m 2 (([c0, c1].drop 0).take (Tryd.prog.cellsOf 2)) = some y0 := hg 0 _ rfl
    rw [cells_of_int64] at h0
    have g0 : DataW.trod enc Tryd.prog W base spare held m 2 [c0] = some y0 := h0
    have h1 : DataW.trod enc Tryd.prog W base spare held m 2 (([c0, c1].drop 1).take (Tryd.prog.cellsOf 2)) = some y1 := hg 1 _ rfl
    rw [cells_of_int64] at h1
    have g1 : DataW.trod enc Tryd.prog W base spare held m 2 [c1] = some y1 := h1
    obtain ⟨a0, e0, r0, w0⟩ := DataW.trod_int Tryd.underlying2 g0
    obtain rfl : c0 = .int .i64 a0 := by simpa using e0
    obtain ⟨a1, e1, r1, w1⟩ := DataW.trod_int Tryd.underlying2 g1
    obtain rfl : c1 = .int .i64 a1 := by simpa using e1
    subst r0 r1
    exact ⟨a0, a1, rfl, rfl, hx, w0, w1⟩
set_option maxRecDepth 100000 in
theorem trod_point_mk {a0 a1 : Int} (m : Nat) (w0 : (Lit.int .i64 a0).wf = true) (w1 : (Lit.int .i64 a1).wf = true) :
    DataW.trod enc Tryd.prog W base spare held (m + 2) 24 [.int .i64 a0, .int .i64 a1] = some (.agg [.lit (.int .i64 a0), .lit (.int .i64 a1)], []) := by
  have i0 := trod_int_mk (enc := enc) (w := W) (base := base) (spare := spare) (held := held) m Tryd.underlying2 w0
  have i1 := trod_int_mk (enc := enc) (w := W) (base := base) (spare := spare) (held := held) m Tryd.underlying2 w1
  have := trod_struct_mk (enc := enc) (w := W) (base := base) (spare := spare) (held := held) (n := m + 1) (cs := [.int .i64 a0, .int .i64 a1])
    (xs := [(.lit (.int .i64 a0), []), (.lit (.int .i64 a1), [])]) Tryd.underlying24 (by rw [cells_of_point]; rfl)
    (by simp [cells_of_int64, i0, i1])
  simpa using this
set_option maxRecDepth 100000 in
theorem open_point {v : Value} {d : DataW H} {p : List MemPlace} (hv : Value.okWide Tryd.prog W .any b0 24 v) (h : DataW.Trod enc Tryd.prog W base spare held 24 v d p) :
    ∃ a0 a1 : Int, v = .agg #[.int .i64 a0, .int .i64 a1] ∧ d = .agg [.lit (.int .i64 a0), .lit (.int .i64 a1)] ∧ p = [] ∧ (Lit.int .i64 a0).wf = true ∧ (Lit.int .i64 a1).wf = true := by
  obtain ⟨cs, rfl, hsz⟩ := okWide_struct Tryd.underlying24 hv
  obtain ⟨l⟩ := cs
  match l, hsz.trans cells_of_point with
  | [c0, c1], _ =>
    obtain ⟨fuel, hf⟩ := h
    have hf' : DataW.trod enc Tryd.prog W base spare held fuel 24 [c0, c1] = some (d, p) := hf
    obtain ⟨a0, a1, rfl, rfl, hy, w0, w1⟩ := trod_point hf'
    simp only [Prod.mk.injEq] at hy
    exact ⟨a0, a1, rfl, hy.1, hy.2, w0, w1⟩
set_option maxRecDepth 100000 in
theorem shut_point {a0 a1 : Int} (w0 : (Lit.int .i64 a0).wf = true) (w1 : (Lit.int .i64 a1).wf = true) :
    DataW.Trod enc Tryd.prog W base spare held 24 (.agg #[.int .i64 a0, .int .i64 a1]) (.agg [.lit (.int .i64 a0), .lit (.int .i64 a1)]) [] :=
  ⟨2, trod_point_mk (enc := enc) (W := W) (base := base) (spare := spare) (held := held) 0 w0 w1⟩
set_option maxRecDepth 100000 in
theorem trod_report {n : Nat} {c0 c1 c2 c3 c4 c5 c6 c7 : Value} {y : DataW H × List MemPlace} (h : DataW.trod enc Tryd.prog W base spare held n 26 [c0, c1, c2, c3, c4, c5, c6, c7] = some y) :
    ∃ a0 a1 a2 a3 a4 a5 a6 a7 : Int, c0 = .int .i64 a0 ∧ c1 = .int .u8 a1 ∧ c2 = .int .i64 a2 ∧ c3 = .int .i64 a3 ∧ c4 = .int .i64 a4 ∧ c5 = .int .i64 a5 ∧ c6 = .int .i64 a6 ∧ c7 = .int .i64 a7 ∧ y = (.agg [.lit (.int .i64 a0), .lit (.int .u8 a1), .agg [.lit (.int .i64 a2), .lit (.int .i64 a3)], .lit (.int .i64 a4), .lit (.int .i64 a5), .lit (.int .i64 a6), .lit (.int .i64 a7)], []) ∧ (Lit.int .i64 a0).wf = true ∧ (Lit.int .u8 a1).wf = true ∧ (Lit.int .i64 a2).wf = true ∧ (Lit.int .i64 a3).wf = true ∧ (Lit.int .i64 a4).wf = true ∧ (Lit.int .i64 a5).wf = true ∧ (Lit.int .i64 a6).wf = true ∧ (Lit.int .i64 a7).wf = true := by
  obtain ⟨xs, m, _, hx, _, hlen, hg⟩ := DataW.trod_struct Tryd.underlying26 h
  match xs, hlen with
  | [y0, y1, y2, y3, y4, y5, y6], _ =>
    have h0 : DataW.trod enc Tryd.prog W base spare held m 3 (([c0, c1, c2, c3, c4, c5, c6, c7].drop 0).take (Tryd.prog.cellsOf 3)) = some y0 := hg 0 _ rfl
    rw [cells_of_int] at h0
    have g0 : DataW.trod enc Tryd.prog W base spare held m 3 [c0] = some y0 := h0
    have h1 : DataW.trod enc Tryd.prog W base spare held m 22 (([c0, c1, c2, c3, c4, c5, c6, c7].drop 1).take (Tryd.prog.cellsOf 22)) = some y1 := hg 1 _ rfl
    rw [cells_of_api_ReportKind] at h1
    have g1 : DataW.trod enc Tryd.prog W base spare held m 22 [c1] = some y1 := h1
    have h2 : DataW.trod enc Tryd.prog W base spare held m 24 (([c0, c1, c2, c3, c4, c5, c6, c7].drop 2).take (Tryd.prog.cellsOf 24)) = some y2 := hg 2 _ rfl
    rw [cells_of_point] at h2
    have g2 : DataW.trod enc Tryd.prog W base spare held m 24 [c2, c3] = some y2 := h2
    have h3 : DataW.trod enc Tryd.prog W base spare held m 2 (([c0, c1, c2, c3, c4, c5, c6, c7].drop 4).take (Tryd.prog.cellsOf 2)) = some y3 := hg 3 _ rfl
    rw [cells_of_int64] at h3
    have g3 : DataW.trod enc Tryd.prog W base spare held m 2 [c4] = some y3 := h3
    have h4 : DataW.trod enc Tryd.prog W base spare held m 2 (([c0, c1, c2, c3, c4, c5, c6, c7].drop 5).take (Tryd.prog.cellsOf 2)) = some y4 := hg 4 _ rfl
    rw [cells_of_int64] at h4
    have g4 : DataW.trod enc Tryd.prog W base spare held m 2 [c5] = some y4 := h4
    have h5 : DataW.trod enc Tryd.prog W base spare held m 2 (([c0, c1, c2, c3, c4, c5, c6, c7].drop 6).take (Tryd.prog.cellsOf 2)) = some y5 := hg 5 _ rfl
    rw [cells_of_int64] at h5
    have g5 : DataW.trod enc Tryd.prog W base spare held m 2 [c6] = some y5 := h5
    have h6 : DataW.trod enc Tryd.prog W base spare held m 2 (([c0, c1, c2, c3, c4, c5, c6, c7].drop 7).take (Tryd.prog.cellsOf 2)) = some y6 := hg 6 _ rfl
    rw [cells_of_int64] at h6
    have g6 : DataW.trod enc Tryd.prog W base spare held m 2 [c7] = some y6 := h6
    obtain ⟨a0, e0, r0, w0⟩ := DataW.trod_int Tryd.underlying3 g0
    obtain rfl : c0 = .int .i64 a0 := by simpa using e0
    obtain ⟨a1, e1, r1, w1⟩ := DataW.trod_int Tryd.underlying22 g1
    obtain rfl : c1 = .int .u8 a1 := by simpa using e1
    obtain ⟨a2, a3, rfl, rfl, r2, w2, w3⟩ := trod_point g2
    obtain ⟨a4, e4, r3, w4⟩ := DataW.trod_int Tryd.underlying2 g3
    obtain rfl : c4 = .int .i64 a4 := by simpa using e4
    obtain ⟨a5, e5, r4, w5⟩ := DataW.trod_int Tryd.underlying2 g4
    obtain rfl : c5 = .int .i64 a5 := by simpa using e5
    obtain ⟨a6, e6, r5, w6⟩ := DataW.trod_int Tryd.underlying2 g5
    obtain rfl : c6 = .int .i64 a6 := by simpa using e6
    obtain ⟨a7, e7, r6, w7⟩ := DataW.trod_int Tryd.underlying2 g6
    obtain rfl : c7 = .int .i64 a7 := by simpa using e7
    subst r0 r1 r2 r3 r4 r5 r6
    exact ⟨a0, a1, a2, a3, a4, a5, a6, a7, rfl, rfl, rfl, rfl, rfl, rfl, rfl, rfl, hx, w0, w1, w2, w3, w4, w5, w6, w7⟩
set_option maxRecDepth 100000 in
theorem trod_report_mk {a0 a1 a2 a3 a4 a5 a6 a7 : Int} (m : Nat) (w0 : (Lit.int .i64 a0).wf = true) (w1 : (Lit.int .u8 a1).wf = true) (w2 : (Lit.int .i64 a2).wf = true) (w3 : (Lit.int .i64 a3).wf = true) (w4 : (Lit.int .i64 a4).wf = true) (w5 : (Lit.int .i64 a5).wf = true) (w6 : (Lit.int .i64 a6).wf = true) (w7 : (Lit.int .i64 a7).wf = true) :
    DataW.trod enc Tryd.prog W base spare held (m + 3) 26 [.int .i64 a0, .int .u8 a1, .int .i64 a2, .int .i64 a3, .int .i64 a4, .int .i64 a5, .int .i64 a6, .int .i64 a7] = some (.agg [.lit (.int .i64 a0), .lit (.int .u8 a1), .agg [.lit (.int .i64 a2), .lit (.int .i64 a3)], .lit (.int .i64 a4), .lit (.int .i64 a5), .lit (.int .i64 a6), .lit (.int .i64 a7)], []) := by
  have i0 := trod_int_mk (enc := enc) (w := W) (base := base) (spare := spare) (held := held) (m + 1) Tryd.underlying3 w0
  have i1 := trod_int_mk (enc := enc) (w := W) (base := base) (spare := spare) (held := held) (m + 1) Tryd.underlying22 w1
  have i2 := trod_point_mk (enc := enc) (W := W) (base := base) (spare := spare) (held := held) m w2 w3
  have i3 := trod_int_mk (enc := enc) (w := W) (base := base) (spare := spare) (held := held) (m + 1) Tryd.underlying2 w4
  have i4 := trod_int_mk (enc := enc) (w := W) (base := base) (spare := spare) (held := held) (m + 1) Tryd.underlying2 w5
  have i5 := trod_int_mk (enc := enc) (w := W) (base := base) (spare := spare) (held := held) (m + 1) Tryd.underlying2 w6
  have i6 := trod_int_mk (enc := enc) (w := W) (base := base) (spare := spare) (held := held) (m + 1) Tryd.underlying2 w7
  have := trod_struct_mk (enc := enc) (w := W) (base := base) (spare := spare) (held := held) (n := m + 2) (cs := [.int .i64 a0, .int .u8 a1, .int .i64 a2, .int .i64 a3, .int .i64 a4, .int .i64 a5, .int .i64 a6, .int .i64 a7])
    (xs := [(.lit (.int .i64 a0), []), (.lit (.int .u8 a1), []), (.agg [.lit (.int .i64 a2), .lit (.int .i64 a3)], []), (.lit (.int .i64 a4), []), (.lit (.int .i64 a5), []), (.lit (.int .i64 a6), []), (.lit (.int .i64 a7), [])]) Tryd.underlying26 (by rw [cells_of_report]; rfl)
    (by simp [cells_of_api_ReportKind, cells_of_int, cells_of_int64, cells_of_point, i0, i1, i2, i3, i4, i5, i6])
  simpa using this
set_option maxRecDepth 100000 in
theorem open_report {v : Value} {d : DataW H} {p : List MemPlace} (hv : Value.okWide Tryd.prog W .any b0 26 v) (h : DataW.Trod enc Tryd.prog W base spare held 26 v d p) :
    ∃ a0 a1 a2 a3 a4 a5 a6 a7 : Int, v = .agg #[.int .i64 a0, .int .u8 a1, .int .i64 a2, .int .i64 a3, .int .i64 a4, .int .i64 a5, .int .i64 a6, .int .i64 a7] ∧ d = .agg [.lit (.int .i64 a0), .lit (.int .u8 a1), .agg [.lit (.int .i64 a2), .lit (.int .i64 a3)], .lit (.int .i64 a4), .lit (.int .i64 a5), .lit (.int .i64 a6), .lit (.int .i64 a7)] ∧ p = [] ∧ (Lit.int .i64 a0).wf = true ∧ (Lit.int .u8 a1).wf = true ∧ (Lit.int .i64 a2).wf = true ∧ (Lit.int .i64 a3).wf = true ∧ (Lit.int .i64 a4).wf = true ∧ (Lit.int .i64 a5).wf = true ∧ (Lit.int .i64 a6).wf = true ∧ (Lit.int .i64 a7).wf = true := by
  obtain ⟨cs, rfl, hsz⟩ := okWide_struct Tryd.underlying26 hv
  obtain ⟨l⟩ := cs
  match l, hsz.trans cells_of_report with
  | [c0, c1, c2, c3, c4, c5, c6, c7], _ =>
    obtain ⟨fuel, hf⟩ := h
    have hf' : DataW.trod enc Tryd.prog W base spare held fuel 26 [c0, c1, c2, c3, c4, c5, c6, c7] = some (d, p) := hf
    obtain ⟨a0, a1, a2, a3, a4, a5, a6, a7, rfl, rfl, rfl, rfl, rfl, rfl, rfl, rfl, hy, w0, w1, w2, w3, w4, w5, w6, w7⟩ := trod_report hf'
    simp only [Prod.mk.injEq] at hy
    exact ⟨a0, a1, a2, a3, a4, a5, a6, a7, rfl, hy.1, hy.2, w0, w1, w2, w3, w4, w5, w6, w7⟩
set_option maxRecDepth 100000 in
theorem shut_report {a0 a1 a2 a3 a4 a5 a6 a7 : Int} (w0 : (Lit.int .i64 a0).wf = true) (w1 : (Lit.int .u8 a1).wf = true) (w2 : (Lit.int .i64 a2).wf = true) (w3 : (Lit.int .i64 a3).wf = true) (w4 : (Lit.int .i64 a4).wf = true) (w5 : (Lit.int .i64 a5).wf = true) (w6 : (Lit.int .i64 a6).wf = true) (w7 : (Lit.int .i64 a7).wf = true) :
    DataW.Trod enc Tryd.prog W base spare held 26 (.agg #[.int .i64 a0, .int .u8 a1, .int .i64 a2, .int .i64 a3, .int .i64 a4, .int .i64 a5, .int .i64 a6, .int .i64 a7]) (.agg [.lit (.int .i64 a0), .lit (.int .u8 a1), .agg [.lit (.int .i64 a2), .lit (.int .i64 a3)], .lit (.int .i64 a4), .lit (.int .i64 a5), .lit (.int .i64 a6), .lit (.int .i64 a7)]) [] :=
  ⟨3, trod_report_mk (enc := enc) (W := W) (base := base) (spare := spare) (held := held) 0 w0 w1 w2 w3 w4 w5 w6 w7⟩
set_option maxRecDepth 100000 in
theorem trod_box {n : Nat} {c0 c1 c2 c3 : Value} {y : DataW H × List MemPlace} (h : DataW.trod enc Tryd.prog W base spare held n 32 [c0, c1, c2, c3] = some y) :
    ∃ a0 a1 a2 a3 : Int, c0 = .int .i64 a0 ∧ c1 = .int .i64 a1 ∧ c2 = .int .i64 a2 ∧ c3 = .int .i64 a3 ∧ y = (.agg [.agg [.lit (.int .i64 a0), .lit (.int .i64 a1)], .lit (.int .i64 a2), .lit (.int .i64 a3)], []) ∧ (Lit.int .i64 a0).wf = true ∧ (Lit.int .i64 a1).wf = true ∧ (Lit.int .i64 a2).wf = true ∧ (Lit.int .i64 a3).wf = true := by
  obtain ⟨xs, m, _, hx, _, hlen, hg⟩ := DataW.trod_struct Tryd.underlying32 h
  match xs, hlen with
  | [y0, y1, y2], _ =>
    have h0 : DataW.trod enc Tryd.prog W base spare held m 24 (([c0, c1, c2, c3].drop 0).take (Tryd.prog.cellsOf 24)) = some y0 := hg 0 _ rfl
    rw [cells_of_point] at h0
    have g0 : DataW.trod enc Tryd.prog W base spare held m 24 [c0, c1] = some y0 := h0
    have h1 : DataW.trod enc Tryd.prog W base spare held m 2 (([c0, c1, c2, c3].drop 2).take (Tryd.prog.cellsOf 2)) = some y1 := hg 1 _ rfl
    rw [cells_of_int64] at h1
    have g1 : DataW.trod enc Tryd.prog W base spare held m 2 [c2] = some y1 := h1
    have h2 : DataW.trod enc Tryd.prog W base spare held m 2 (([c0, c1, c2, c3].drop 3).take (Tryd.prog.cellsOf 2)) = some y2 := hg 2 _ rfl
    rw [cells_of_int64] at h2
    have g2 : DataW.trod enc Tryd.prog W base spare held m 2 [c3] = some y2 := h2
    obtain ⟨a0, a1, rfl, rfl, r0, w0, w1⟩ := trod_point g0
    obtain ⟨a2, e2, r1, w2⟩ := DataW.trod_int Tryd.underlying2 g1
    obtain rfl : c2 = .int .i64 a2 := by simpa using e2
    obtain ⟨a3, e3, r2, w3⟩ := DataW.trod_int Tryd.underlying2 g2
    obtain rfl : c3 = .int .i64 a3 := by simpa using e3
    subst r0 r1 r2
    exact ⟨a0, a1, a2, a3, rfl, rfl, rfl, rfl, hx, w0, w1, w2, w3⟩
set_option maxRecDepth 100000 in
theorem trod_box_mk {a0 a1 a2 a3 : Int} (m : Nat) (w0 : (Lit.int .i64 a0).wf = true) (w1 : (Lit.int .i64 a1).wf = true) (w2 : (Lit.int .i64 a2).wf = true) (w3 : (Lit.int .i64 a3).wf = true) :
    DataW.trod enc Tryd.prog W base spare held (m + 3) 32 [.int .i64 a0, .int .i64 a1, .int .i64 a2, .int .i64 a3] = some (.agg [.agg [.lit (.int .i64 a0), .lit (.int .i64 a1)], .lit (.int .i64 a2), .lit (.int .i64 a3)], []) := by
  have i0 := trod_point_mk (enc := enc) (W := W) (base := base) (spare := spare) (held := held) m w0 w1
  have i1 := trod_int_mk (enc := enc) (w := W) (base := base) (spare := spare) (held := held) (m + 1) Tryd.underlying2 w2
  have i2 := trod_int_mk (enc := enc) (w := W) (base := base) (spare := spare) (held := held) (m + 1) Tryd.underlying2 w3
  have := trod_struct_mk (enc := enc) (w := W) (base := base) (spare := spare) (held := held) (n := m + 2) (cs := [.int .i64 a0, .int .i64 a1, .int .i64 a2, .int .i64 a3])
    (xs := [(.agg [.lit (.int .i64 a0), .lit (.int .i64 a1)], []), (.lit (.int .i64 a2), []), (.lit (.int .i64 a3), [])]) Tryd.underlying32 (by rw [cells_of_box]; rfl)
    (by simp [cells_of_int64, cells_of_point, i0, i1, i2])
  simpa using this
set_option maxRecDepth 100000 in
theorem open_box {v : Value} {d : DataW H} {p : List MemPlace} (hv : Value.okWide Tryd.prog W .any b0 32 v) (h : DataW.Trod enc Tryd.prog W base spare held 32 v d p) :
    ∃ a0 a1 a2 a3 : Int, v = .agg #[.int .i64 a0, .int .i64 a1, .int .i64 a2, .int .i64 a3] ∧ d = .agg [.agg [.lit (.int .i64 a0), .lit (.int .i64 a1)], .lit (.int .i64 a2), .lit (.int .i64 a3)] ∧ p = [] ∧ (Lit.int .i64 a0).wf = true ∧ (Lit.int .i64 a1).wf = true ∧ (Lit.int .i64 a2).wf = true ∧ (Lit.int .i64 a3).wf = true := by
  obtain ⟨cs, rfl, hsz⟩ := okWide_struct Tryd.underlying32 hv
  obtain ⟨l⟩ := cs
  match l, hsz.trans cells_of_box with
  | [c0, c1, c2, c3], _ =>
    obtain ⟨fuel, hf⟩ := h
    have hf' : DataW.trod enc Tryd.prog W base spare held fuel 32 [c0, c1, c2, c3] = some (d, p) := hf
    obtain ⟨a0, a1, a2, a3, rfl, rfl, rfl, rfl, hy, w0, w1, w2, w3⟩ := trod_box hf'
    simp only [Prod.mk.injEq] at hy
    exact ⟨a0, a1, a2, a3, rfl, hy.1, hy.2, w0, w1, w2, w3⟩
set_option maxRecDepth 100000 in
theorem shut_box {a0 a1 a2 a3 : Int} (w0 : (Lit.int .i64 a0).wf = true) (w1 : (Lit.int .i64 a1).wf = true) (w2 : (Lit.int .i64 a2).wf = true) (w3 : (Lit.int .i64 a3).wf = true) :
    DataW.Trod enc Tryd.prog W base spare held 32 (.agg #[.int .i64 a0, .int .i64 a1, .int .i64 a2, .int .i64 a3]) (.agg [.agg [.lit (.int .i64 a0), .lit (.int .i64 a1)], .lit (.int .i64 a2), .lit (.int .i64 a3)]) [] :=
  ⟨3, trod_box_mk (enc := enc) (W := W) (base := base) (spare := spare) (held := held) 0 w0 w1 w2 w3⟩
set_option maxRecDepth 100000 in
theorem trod_points2 {n : Nat} {c0 c1 c2 c3 : Value} {y : DataW H × List MemPlace} (h : DataW.trod enc Tryd.prog W base spare held n 48 [c0, c1, c2, c3] = some y) :
    ∃ a0 a1 a2 a3 : Int, c0 = .int .i64 a0 ∧ c1 = .int .i64 a1 ∧ c2 = .int .i64 a2 ∧ c3 = .int .i64 a3 ∧ y = (.agg [.agg [.lit (.int .i64 a0), .lit (.int .i64 a1)], .agg [.lit (.int .i64 a2), .lit (.int .i64 a3)]], []) ∧ (Lit.int .i64 a0).wf = true ∧ (Lit.int .i64 a1).wf = true ∧ (Lit.int .i64 a2).wf = true ∧ (Lit.int .i64 a3).wf = true := by
  obtain ⟨xs, m, _, hx, _, hlen, hg⟩ := DataW.trod_array Tryd.underlying48 h
  match xs, hlen with
  | [y0, y1], _ =>
    have h0 : DataW.trod enc Tryd.prog W base spare held m 24 (([c0, c1, c2, c3].drop (0 * Tryd.prog.cellsOf 24)).take (Tryd.prog.cellsOf 24)) = some y0 := hg 0 (by decide)
    rw [cells_of_point] at h0
    have g0 : DataW.trod enc Tryd.prog W base spare held m 24 [c0, c1] = some y0 := h0
    have h1 : DataW.trod enc Tryd.prog W base spare held m 24 (([c0, c1, c2, c3].drop (1 * Tryd.prog.cellsOf 24)).take (Tryd.prog.cellsOf 24)) = some y1 := hg 1 (by decide)
    rw [cells_of_point] at h1
    have g1 : DataW.trod enc Tryd.prog W base spare held m 24 [c2, c3] = some y1 := h1
    obtain ⟨a0, a1, rfl, rfl, r0, w0, w1⟩ := trod_point g0
    obtain ⟨a2, a3, rfl, rfl, r1, w2, w3⟩ := trod_point g1
    subst r0 r1
    exact ⟨a0, a1, a2, a3, rfl, rfl, rfl, rfl, hx, w0, w1, w2, w3⟩
set_option maxRecDepth 100000 in
theorem trod_points2_mk {a0 a1 a2 a3 : Int} (m : Nat) (w0 : (Lit.int .i64 a0).wf = true) (w1 : (Lit.int .i64 a1).wf = true) (w2 : (Lit.int .i64 a2).wf = true) (w3 : (Lit.int .i64 a3).wf = true) :
    DataW.trod enc Tryd.prog W base spare held (m + 3) 48 [.int .i64 a0, .int .i64 a1, .int .i64 a2, .int .i64 a3] = some (.agg [.agg [.lit (.int .i64 a0), .lit (.int .i64 a1)], .agg [.lit (.int .i64 a2), .lit (.int .i64 a3)]], []) := by
  have i0 := trod_point_mk (enc := enc) (W := W) (base := base) (spare := spare) (held := held) m w0 w1
  have i1 := trod_point_mk (enc := enc) (W := W) (base := base) (spare := spare) (held := held) m w2 w3
  have := trod_array_mk (enc := enc) (w := W) (base := base) (spare := spare) (held := held) (n := m + 2) (cs := [.int .i64 a0, .int .i64 a1, .int .i64 a2, .int .i64 a3])
    (xs := [(.agg [.lit (.int .i64 a0), .lit (.int .i64 a1)], []), (.agg [.lit (.int .i64 a2), .lit (.int .i64 a3)], [])]) Tryd.underlying48 (by rw [cells_of_points2]; rfl)
    (by simp [List.range, List.range.loop, cells_of_point, i0, i1])
  simpa using this
set_option maxRecDepth 100000 in
theorem open_points2 {v : Value} {d : DataW H} {p : List MemPlace} (hv : Value.okWide Tryd.prog W .any b0 48 v) (h : DataW.Trod enc Tryd.prog W base spare held 48 v d p) :
    ∃ a0 a1 a2 a3 : Int, v = .agg #[.int .i64 a0, .int .i64 a1, .int .i64 a2, .int .i64 a3] ∧ d = .agg [.agg [.lit (.int .i64 a0), .lit (.int .i64 a1)], .agg [.lit (.int .i64 a2), .lit (.int .i64 a3)]] ∧ p = [] ∧ (Lit.int .i64 a0).wf = true ∧ (Lit.int .i64 a1).wf = true ∧ (Lit.int .i64 a2).wf = true ∧ (Lit.int .i64 a3).wf = true := by
  obtain ⟨cs, rfl, hsz⟩ := okWide_arr Tryd.underlying48 hv
  obtain ⟨l⟩ := cs
  match l, hsz.trans cells_of_points2 with
  | [c0, c1, c2, c3], _ =>
    obtain ⟨fuel, hf⟩ := h
    have hf' : DataW.trod enc Tryd.prog W base spare held fuel 48 [c0, c1, c2, c3] = some (d, p) := hf
    obtain ⟨a0, a1, a2, a3, rfl, rfl, rfl, rfl, hy, w0, w1, w2, w3⟩ := trod_points2 hf'
    simp only [Prod.mk.injEq] at hy
    exact ⟨a0, a1, a2, a3, rfl, hy.1, hy.2, w0, w1, w2, w3⟩
set_option maxRecDepth 100000 in
theorem shut_points2 {a0 a1 a2 a3 : Int} (w0 : (Lit.int .i64 a0).wf = true) (w1 : (Lit.int .i64 a1).wf = true) (w2 : (Lit.int .i64 a2).wf = true) (w3 : (Lit.int .i64 a3).wf = true) :
    DataW.Trod enc Tryd.prog W base spare held 48 (.agg #[.int .i64 a0, .int .i64 a1, .int .i64 a2, .int .i64 a3]) (.agg [.agg [.lit (.int .i64 a0), .lit (.int .i64 a1)], .agg [.lit (.int .i64 a2), .lit (.int .i64 a3)]]) [] :=
  ⟨3, trod_points2_mk (enc := enc) (W := W) (base := base) (spare := spare) (held := held) 0 w0 w1 w2 w3⟩
set_option maxRecDepth 100000 in
theorem trod_ints2 {n : Nat} {c0 c1 : Value} {y : DataW H × List MemPlace} (h : DataW.trod enc Tryd.prog W base spare held n 49 [c0, c1] = some y) :
    ∃ a0 a1 : Int, c0 = .int .i64 a0 ∧ c1 = .int .i64 a1 ∧ y = (.agg [.lit (.int .i64 a0), .lit (.int .i64 a1)], []) ∧ (Lit.int .i64 a0).wf = true ∧ (Lit.int .i64 a1).wf = true := by
  obtain ⟨xs, m, _, hx, _, hlen, hg⟩ := DataW.trod_array Tryd.underlying49 h
  match xs, hlen with
  | [y0, y1], _ =>
    have h0 : DataW.trod enc Tryd.prog W base spare held m 2 (([c0, c1].drop (0 * Tryd.prog.cellsOf 2)).take (Tryd.prog.cellsOf 2)) = some y0 := hg 0 (by decide)
    rw [cells_of_int64] at h0
    have g0 : DataW.trod enc Tryd.prog W base spare held m 2 [c0] = some y0 := h0
    have h1 : DataW.trod enc Tryd.prog W base spare held m 2 (([c0, c1].drop (1 * Tryd.prog.cellsOf 2)).take (Tryd.prog.cellsOf 2)) = some y1 := hg 1 (by decide)
    rw [cells_of_int64] at h1
    have g1 : DataW.trod enc Tryd.prog W base spare held m 2 [c1] = some y1 := h1
    obtain ⟨a0, e0, r0, w0⟩ := DataW.trod_int Tryd.underlying2 g0
    obtain rfl : c0 = .int .i64 a0 := by simpa using e0
    obtain ⟨a1, e1, r1, w1⟩ := DataW.trod_int Tryd.underlying2 g1
    obtain rfl : c1 = .int .i64 a1 := by simpa using e1
    subst r0 r1
    exact ⟨a0, a1, rfl, rfl, hx, w0, w1⟩
set_option maxRecDepth 100000 in
theorem trod_ints2_mk {a0 a1 : Int} (m : Nat) (w0 : (Lit.int .i64 a0).wf = true) (w1 : (Lit.int .i64 a1).wf = true) :
    DataW.trod enc Tryd.prog W base spare held (m + 2) 49 [.int .i64 a0, .int .i64 a1] = some (.agg [.lit (.int .i64 a0), .lit (.int .i64 a1)], []) := by
  have i0 := trod_int_mk (enc := enc) (w := W) (base := base) (spare := spare) (held := held) m Tryd.underlying2 w0
  have i1 := trod_int_mk (enc := enc) (w := W) (base := base) (spare := spare) (held := held) m Tryd.underlying2 w1
  have := trod_array_mk (enc := enc) (w := W) (base := base) (spare := spare) (held := held) (n := m + 1) (cs := [.int .i64 a0, .int .i64 a1])
    (xs := [(.lit (.int .i64 a0), []), (.lit (.int .i64 a1), [])]) Tryd.underlying49 (by rw [cells_of_ints2]; rfl)
    (by simp [List.range, List.range.loop, cells_of_int64, i0, i1])
  simpa using this
set_option maxRecDepth 100000 in
theorem open_ints2 {v : Value} {d : DataW H} {p : List MemPlace} (hv : Value.okWide Tryd.prog W .any b0 49 v) (h : DataW.Trod enc Tryd.prog W base spare held 49 v d p) :
    ∃ a0 a1 : Int, v = .agg #[.int .i64 a0, .int .i64 a1] ∧ d = .agg [.lit (.int .i64 a0), .lit (.int .i64 a1)] ∧ p = [] ∧ (Lit.int .i64 a0).wf = true ∧ (Lit.int .i64 a1).wf = true := by
  obtain ⟨cs, rfl, hsz⟩ := okWide_arr Tryd.underlying49 hv
  obtain ⟨l⟩ := cs
  match l, hsz.trans cells_of_ints2 with
  | [c0, c1], _ =>
    obtain ⟨fuel, hf⟩ := h
    have hf' : DataW.trod enc Tryd.prog W base spare held fuel 49 [c0, c1] = some (d, p) := hf
    obtain ⟨a0, a1, rfl, rfl, hy, w0, w1⟩ := trod_ints2 hf'
    simp only [Prod.mk.injEq] at hy
    exact ⟨a0, a1, rfl, hy.1, hy.2, w0, w1⟩
set_option maxRecDepth 100000 in
theorem shut_ints2 {a0 a1 : Int} (w0 : (Lit.int .i64 a0).wf = true) (w1 : (Lit.int .i64 a1).wf = true) :
    DataW.Trod enc Tryd.prog W base spare held 49 (.agg #[.int .i64 a0, .int .i64 a1]) (.agg [.lit (.int .i64 a0), .lit (.int .i64 a1)]) [] :=
  ⟨2, trod_ints2_mk (enc := enc) (W := W) (base := base) (spare := spare) (held := held) 0 w0 w1⟩
end
end Go.Proofs.YtnnafjmfbnnnjaaDoor
