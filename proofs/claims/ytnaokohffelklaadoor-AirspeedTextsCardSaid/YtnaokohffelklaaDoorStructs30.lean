/-
  Airs and arrays of them as parameters: opened to their integers and shut again.
-/
import Derived.Test.YtnaokohffelklaaDoorFrame30
namespace Go.Proofs.YtnaokohffelklaaDoor
set_option linter.unusedVariables false
open Go.ChangeShapes Go.WideShapes Go.ChangeAt Go.RowKit Go.Joins

theorem cells_of_int64 : Tryd.prog.cellsOf 2 = 1 := by kernel_rfl
theorem cells_of_air : Tryd.prog.cellsOf 23 = 2 := by kernel_rfl
theorem cells_of_airs2 : Tryd.prog.cellsOf 31 = 4 := by kernel_rfl
theorem cells_of_ints2 : Tryd.prog.cellsOf 30 = 2 := by kernel_rfl

section
variable {H : Type} {enc : TypeId × Value → H} {W : World} {base : Nat} {spare : Nat → Bool} {held : Bool} {b0 : Nat}

theorem trod_array_mk {t : TypeId} {e k : Nat} {n : Nat} {cs : List Value} {xs : List (DataW H × List MemPlace)} {P : Program} {w : World} (ht : P.underlying t = some (.array k e)) (hl : cs.length = P.cellsOf t)
    (hp : (List.range k).mapM (fun i => DataW.trod enc P w base spare held n e ((cs.drop (i * P.cellsOf e)).take (P.cellsOf e))) = some xs) :
    DataW.trod enc P w base spare held (n + 1) t cs = some (.agg (xs.map (·.1)), xs.flatMap (·.2)) := by
  unfold DataW.trod
  rw [ht]
  split <;> simp_all
theorem okWide_arr {P : Program} {r : Reach} {t : TypeId} {k e : Nat} {v : Value} (hs : P.underlying t = some (.array k e)) (hv : Value.okWide P W r b0 t v) : ∃ cs, v = .agg cs ∧ cs.size = P.cellsOf t := by
  cases v <;> simp_all [Value.okWide]
set_option maxRecDepth 100000 in
theorem trod_air {n : Nat} {c0 c1 : Value} {y : DataW H × List MemPlace} (h : DataW.trod enc Tryd.prog W base spare held n 23 [c0, c1] = some y) :
    ∃ a0 a1 : Int, c0 = .int .i64 a0 ∧ c1 = .int .i64 a1 ∧ y = (.agg [.lit (.int .i64 a0), .lit (.int .i64 a1)], []) ∧ (Lit.int .i64 a0).wf = true ∧ (Lit.int .i64 a1).wf = true := by
  obtain ⟨xs, m, _, hx, _, hlen, hg⟩ := DataW.trod_struct Tryd.underlying23 h
  match xs, hlen with
  | [y0, y1], _ =>
    have h0 : DataW.trod enc Tryd.prog W base spare held m 2 (([c0, c1].drop 0).take (Tryd.prog.cellsOf 2)) = some y0 := hg 0 _ rfl
    rw [cells_of_int64] at h0
    have g0 : DataW.trod enc Tryd.prog W base spare held m 2 [c0] = some y0 := h0
    have h1 : DataW.trod enc Tryd.prog W base spare held m 2 (([c0, c1].drop 1).take (Tryd.prog.cellsOf 2)) = some y1 := hg 1 _ rfl
    rw [cells_of_int64] at h1
    have g1 : DataW.trod enc Tryd.prog W base spare held m 2 [c1] = some y1 := h1
    obtain ⟨a0, e0, r0, w0⟩ := DataW.trod_int Tryd.underlying2 g0
    obtain rfl : c0 = .int .i64 a0 := by simpa using e0
    obtain ⟨a1, e1, r1, w1⟩ := DataW.trod_int Tryd.underlying2 g1
    obtain rfl : c1 = .int .i64 a1 := by simpa using e1
    subst r0 r1
    exact ⟨a0, a1, rfl, rfl, hx, w0, w1⟩
set_option maxRecDepth 100000 in
theorem trod_air_mk {a0 a1 : Int} (m : Nat) (w0 : (Lit.int .i64 a0).wf = true) (w1 : (Lit.int .i64 a1).wf = true) :
    DataW.trod enc Tryd.prog W base spare held (m + 2) 23 [.int .i64 a0, .int .i64 a1] = some (.agg [.lit (.int .i64 a0), .lit (.int .i64 a1)], []) := by
  have i0 := trod_int_mk (enc := enc) (w := W) (base := base) (spare := spare) (held := held) m Tryd.underlying2 w0
  have i1 := trod_int_mk (enc := enc) (w := W) (base := base) (spare := spare) (held := held) m Tryd.underlying2 w1
  have := trod_struct_mk (enc := enc) (w := W) (base := base) (spare := spare) (held := held) (n := m + 1) (cs := [.int .i64 a0, .int .i64 a1])
    (xs := [(.lit (.int .i64 a0), []), (.lit (.int .i64 a1), [])]) Tryd.underlying23 (by rw [cells_of_air]; rfl)
    (by simp [cells_of_int64, i0, i1])
  simpa using this
set_option maxRecDepth 100000 in
theorem open_air {v : Value} {d : DataW H} {p : List MemPlace} (hv : Value.okWide Tryd.prog W .any b0 23 v) (h : DataW.Trod enc Tryd.prog W base spare held 23 v d p) :
    ∃ a0 a1 : Int, v = .agg #[.int .i64 a0, .int .i64 a1] ∧ d = .agg [.lit (.int .i64 a0), .lit (.int .i64 a1)] ∧ p = [] ∧ (Lit.int .i64 a0).wf = true ∧ (Lit.int .i64 a1).wf = true := by
  obtain ⟨cs, rfl, hsz⟩ := okWide_struct Tryd.underlying23 hv
  obtain ⟨l⟩ := cs
  match l, hsz.trans cells_of_air with
  | [c0, c1], _ =>
    obtain ⟨fuel, hf⟩ := h
    have hf' : DataW.trod enc Tryd.prog W base spare held fuel 23 [c0, c1] = some (d, p) := hf
    obtain ⟨a0, a1, rfl, rfl, hy, w0, w1⟩ := trod_air hf'
    simp only [Prod.mk.injEq] at hy
    exact ⟨a0, a1, rfl, hy.1, hy.2, w0, w1⟩
set_option maxRecDepth 100000 in
theorem shut_air {a0 a1 : Int} (w0 : (Lit.int .i64 a0).wf = true) (w1 : (Lit.int .i64 a1).wf = true) :
    DataW.Trod enc Tryd.prog W base spare held 23 (.agg #[.int .i64 a0, .int .i64 a1]) (.agg [.lit (.int .i64 a0), .lit (.int .i64 a1)]) [] :=
  ⟨2, trod_air_mk (enc := enc) (W := W) (base := base) (spare := spare) (held := held) 0 w0 w1⟩
set_option maxRecDepth 100000 in
theorem trod_airs2 {n : Nat} {c0 c1 c2 c3 : Value} {y : DataW H × List MemPlace} (h : DataW.trod enc Tryd.prog W base spare held n 31 [c0, c1, c2, c3] = some y) :
    ∃ a0 a1 a2 a3 : Int, c0 = .int .i64 a0 ∧ c1 = .int .i64 a1 ∧ c2 = .int .i64 a2 ∧ c3 = .int .i64 a3 ∧ y = (.agg [.agg [.lit (.int .i64 a0), .lit (.int .i64 a1)], .agg [.lit (.int .i64 a2), .lit (.int .i64 a3)]], []) ∧ (Lit.int .i64 a0).wf = true ∧ (Lit.int .i64 a1).wf = true ∧ (Lit.int .i64 a2).wf = true ∧ (Lit.int .i64 a3).wf = true := by
  obtain ⟨xs, m, _, hx, _, hlen, hg⟩ := DataW.trod_array Tryd.underlying31 h
  match xs, hlen with
  | [y0, y1], _ =>
    have h0 : DataW.trod enc Tryd.prog W base spare held m 23 (([c0, c1, c2, c3].drop (0 * Tryd.prog.cellsOf 23)).take (Tryd.prog.cellsOf 23)) = some y0 := hg 0 (by decide)
    rw [cells_of_air] at h0
    have g0 : DataW.trod enc Tryd.prog W base spare held m 23 [c0, c1] = some y0 := h0
    have h1 : DataW.trod enc Tryd.prog W base spare held m 23 (([c0, c1, c2, c3].drop (1 * Tryd.prog.cellsOf 23)).take (Tryd.prog.cellsOf 23)) = some y1 := hg 1 (by decide)
    rw [cells_of_air] at h1
    have g1 : DataW.trod enc Tryd.prog W base spare held m 23 [c2, c3] = some y1 := h1
    obtain ⟨a0, a1, rfl, rfl, r0, w0, w1⟩ := trod_air g0
    obtain ⟨a2, a3, rfl, rfl, r1, w2, w3⟩ := trod_air g1
    subst r0 r1
    exact ⟨a0, a1, a2, a3, rfl, rfl, rfl, rfl, hx, w0, w1, w2, w3⟩
set_option maxRecDepth 100000 in
theorem trod_airs2_mk {a0 a1 a2 a3 : Int} (m : Nat) (w0 : (Lit.int .i64 a0).wf = true) (w1 : (Lit.int .i64 a1).wf = true) (w2 : (Lit.int .i64 a2).wf = true) (w3 : (Lit.int .i64 a3).wf = true) :
    DataW.trod enc Tryd.prog W base spare held (m + 3) 31 [.int .i64 a0, .int .i64 a1, .int .i64 a2, .int .i64 a3] = some (.agg [.agg [.lit (.int .i64 a0), .lit (.int .i64 a1)], .agg [.lit (.int .i64 a2), .lit (.int .i64 a3)]], []) := by
  have i0 := trod_air_mk (enc := enc) (W := W) (base := base) (spare := spare) (held := held) m w0 w1
  have i1 := trod_air_mk (enc := enc) (W := W) (base := base) (spare := spare) (held := held) m w2 w3
  have := trod_array_mk (enc := enc) (w := W) (base := base) (spare := spare) (held := held) (n := m + 2) (cs := [.int .i64 a0, .int .i64 a1, .int .i64 a2, .int .i64 a3])
    (xs := [(.agg [.lit (.int .i64 a0), .lit (.int .i64 a1)], []), (.agg [.lit (.int .i64 a2), .lit (.int .i64 a3)], [])]) Tryd.underlying31 (by rw [cells_of_airs2]; rfl)
    (by simp [List.range, List.range.loop, cells_of_air, i0, i1])
  simpa using this
set_option maxRecDepth 100000 in
theorem open_airs2 {v : Value} {d : DataW H} {p : List MemPlace} (hv : Value.okWide Tryd.prog W .any b0 31 v) (h : DataW.Trod enc Tryd.prog W base spare held 31 v d p) :
    ∃ a0 a1 a2 a3 : Int, v = .agg #[.int .i64 a0, .int .i64 a1, .int .i64 a2, .int .i64 a3] ∧ d = .agg [.agg [.lit (.int .i64 a0), .lit (.int .i64 a1)], .agg [.lit (.int .i64 a2), .lit (.int .i64 a3)]] ∧ p = [] ∧ (Lit.int .i64 a0).wf = true ∧ (Lit.int .i64 a1).wf = true ∧ (Lit.int .i64 a2).wf = true ∧ (Lit.int .i64 a3).wf = true := by
  obtain ⟨cs, rfl, hsz⟩ := okWide_arr Tryd.underlying31 hv
  obtain ⟨l⟩ := cs
  match l, hsz.trans cells_of_airs2 with
  | [c0, c1, c2, c3], _ =>
    obtain ⟨fuel, hf⟩ := h
    have hf' : DataW.trod enc Tryd.prog W base spare held fuel 31 [c0, c1, c2, c3] = some (d, p) := hf
    obtain ⟨a0, a1, a2, a3, rfl, rfl, rfl, rfl, hy, w0, w1, w2, w3⟩ := trod_airs2 hf'
    simp only [Prod.mk.injEq] at hy
    exact ⟨a0, a1, a2, a3, rfl, hy.1, hy.2, w0, w1, w2, w3⟩
set_option maxRecDepth 100000 in
theorem shut_airs2 {a0 a1 a2 a3 : Int} (w0 : (Lit.int .i64 a0).wf = true) (w1 : (Lit.int .i64 a1).wf = true) (w2 : (Lit.int .i64 a2).wf = true) (w3 : (Lit.int .i64 a3).wf = true) :
    DataW.Trod enc Tryd.prog W base spare held 31 (.agg #[.int .i64 a0, .int .i64 a1, .int .i64 a2, .int .i64 a3]) (.agg [.agg [.lit (.int .i64 a0), .lit (.int .i64 a1)], .agg [.lit (.int .i64 a2), .lit (.int .i64 a3)]]) [] :=
  ⟨3, trod_airs2_mk (enc := enc) (W := W) (base := base) (spare := spare) (held := held) 0 w0 w1 w2 w3⟩
set_option maxRecDepth 100000 in
theorem trod_ints2 {n : Nat} {c0 c1 : Value} {y : DataW H × List MemPlace} (h : DataW.trod enc Tryd.prog W base spare held n 30 [c0, c1] = some y) :
    ∃ a0 a1 : Int, c0 = .int .i64 a0 ∧ c1 = .int .i64 a1 ∧ y = (.agg [.lit (.int .i64 a0), .lit (.int .i64 a1)], []) ∧ (Lit.int .i64 a0).wf = true ∧ (Lit.int .i64 a1).wf = true := by
  obtain ⟨xs, m, _, hx, _, hlen, hg⟩ := DataW.trod_array Tryd.underlying30 h
  match xs, hlen with
  | [y0, y1], _ =>
    have h0 : DataW.trod enc Tryd.prog W base spare held m 2 (([c0, c1].drop (0 * Tryd.prog.cellsOf 2)).take (Tryd.prog.cellsOf 2)) = some y0 := hg 0 (by decide)
    rw [cells_of_int64] at h0
    have g0 : DataW.trod enc Tryd.prog W base spare held m 2 [c0] = some y0 := h0
    have h1 : DataW.trod enc Tryd.prog W base spare held m 2 (([c0, c1].drop (1 * Tryd.prog.cellsOf 2)).take (Tryd.prog.cellsOf 2)) = some y1 := hg 1 (by decide)
    rw [cells_of_int64] at h1
    have g1 : DataW.trod enc Tryd.prog W base spare held m 2 [c1] = some y1 := h1
    obtain ⟨a0, e0, r0, w0⟩ := DataW.trod_int Tryd.underlying2 g0
    obtain rfl : c0 = .int .i64 a0 := by simpa using e0
    obtain ⟨a1, e1, r1, w1⟩ := DataW.trod_int Tryd.underlying2 g1
    obtain rfl : c1 = .int .i64 a1 := by simpa using e1
    subst r0 r1
    exact ⟨a0, a1, rfl, rfl, hx, w0, w1⟩
set_option maxRecDepth 100000 in
theorem trod_ints2_mk {a0 a1 : Int} (m : Nat) (w0 : (Lit.int .i64 a0).wf = true) (w1 : (Lit.int .i64 a1).wf = true) :
    DataW.trod enc Tryd.prog W base spare held (m + 2) 30 [.int .i64 a0, .int .i64 a1] = some (.agg [.lit (.int .i64 a0), .lit (.int .i64 a1)], []) := by
  have i0 := trod_int_mk (enc := enc) (w := W) (base := base) (spare := spare) (held := held) m Tryd.underlying2 w0
  have i1 := trod_int_mk (enc := enc) (w := W) (base := base) (spare := spare) (held := held) m Tryd.underlying2 w1
  have := trod_array_mk (enc := enc) (w := W) (base := base) (spare := spare) (held := held) (n := m + 1) (cs := [.int .i64 a0, .int .i64 a1])
    (xs := [(.lit (.int .i64 a0), []), (.lit (.int .i64 a1), [])]) Tryd.underlying30 (by rw [cells_of_ints2]; rfl)
    (by simp [List.range, List.range.loop, cells_of_int64, i0, i1])
  simpa using this
set_option maxRecDepth 100000 in
theorem open_ints2 {v : Value} {d : DataW H} {p : List MemPlace} (hv : Value.okWide Tryd.prog W .any b0 30 v) (h : DataW.Trod enc Tryd.prog W base spare held 30 v d p) :
    ∃ a0 a1 : Int, v = .agg #[.int .i64 a0, .int .i64 a1] ∧ d = .agg [.lit (.int .i64 a0), .lit (.int .i64 a1)] ∧ p = [] ∧ (Lit.int .i64 a0).wf = true ∧ (Lit.int .i64 a1).wf = true := by
  obtain ⟨cs, rfl, hsz⟩ := okWide_arr Tryd.underlying30 hv
  obtain ⟨l⟩ := cs
  match l, hsz.trans cells_of_ints2 with
  | [c0, c1], _ =>
    obtain ⟨fuel, hf⟩ := h
    have hf' : DataW.trod enc Tryd.prog W base spare held fuel 30 [c0, c1] = some (d, p) := hf
    obtain ⟨a0, a1, rfl, rfl, hy, w0, w1⟩ := trod_ints2 hf'
    simp only [Prod.mk.injEq] at hy
    exact ⟨a0, a1, rfl, hy.1, hy.2, w0, w1⟩
set_option maxRecDepth 100000 in
theorem shut_ints2 {a0 a1 : Int} (w0 : (Lit.int .i64 a0).wf = true) (w1 : (Lit.int .i64 a1).wf = true) :
    DataW.Trod enc Tryd.prog W base spare held 30 (.agg #[.int .i64 a0, .int .i64 a1]) (.agg [.lit (.int .i64 a0), .lit (.int .i64 a1)]) [] :=
  ⟨2, trod_ints2_mk (enc := enc) (W := W) (base := base) (spare := spare) (held := held) 0 w0 w1⟩
end
end Go.Proofs.YtnaokohffelklaaDoor
