/-
  Measurements, points and pairs as parameters: opened to their integers and shut again.
-/
import Derived.Test.YtplgdlooglnpmaaFrame44
import Derived.Test.YtplgdlooglnpmaaMeasBase
namespace Go.Proofs.Ytplgdlooglnpmaa
set_option linter.unusedVariables false
open Go.ChangeShapes Go.WideShapes Go.ChangeAt Go.RowKit Go.Joins

theorem cells_of_int : Try.prog.cellsOf 3 = 1 := by kernel_rfl
theorem cells_of_int64 : Try.prog.cellsOf 2 = 1 := by kernel_rfl
theorem cells_of_meas : Try.prog.cellsOf 36 = 6 := by kernel_rfl
theorem cells_of_point : Try.prog.cellsOf 30 = 2 := by kernel_rfl

section
variable {H : Type} {enc : TypeId × Value → H} {W : World} {base : Nat} {spare : Nat → Bool} {held : Bool} {b0 : Nat}

set_option maxRecDepth 100000 in
theorem trod_meas {n : Nat} {c0 c1 c2 c3 c4 c5 : Value} {y : DataW H × List MemPlace} (h : DataW.trod enc Try.prog W base spare held n 36 [c0, c1, c2, c3, c4, c5] = some y) :
    ∃ a0 a1 a2 a3 a4 a5 : Int, c0 = .int .i64 a0 ∧ c1 = .int .i64 a1 ∧ c2 = .int .i64 a2 ∧ c3 = .int .i64 a3 ∧ c4 = .int .i64 a4 ∧ c5 = .int .i64 a5 ∧ y = (.agg [.lit (.int .i64 a0), .lit (.int .i64 a1), .lit (.int .i64 a2), .lit (.int .i64 a3), .lit (.int .i64 a4), .lit (.int .i64 a5)], []) ∧ (Lit.int .i64 a0).wf = true ∧ (Lit.int .i64 a1).wf = true ∧ (Lit.int .i64 a2).wf = true ∧ (Lit.int .i64 a3).wf = true ∧ (Lit.int .i64 a4).wf = true ∧ (Lit.int .i64 a5).wf = true := by
  obtain ⟨xs, m, _, hx, _, hlen, hg⟩ := DataW.trod_struct Try.underlying36 h
  match xs, hlen with
  | [y0, y1, y2, y3, y4, y5], _ =>
    have h0 : DataW.trod enc Try.prog W base spare held m 3 (([c0, c1, c2, c3, c4, c5].drop 0).take (Try.prog.cellsOf 3)) = some y0 := hg 0 _ rfl
    rw [cells_of_int] at h0
    have g0 : DataW.trod enc Try.prog W base spare held m 3 [c0] = some y0 := h0
    have h1 : DataW.trod enc Try.prog W base spare held m 2 (([c0, c1, c2, c3, c4, c5].drop 1).take (Try.prog.cellsOf 2)) = some y1 := hg 1 _ rfl
    rw [cells_of_int64] at h1
    have g1 : DataW.trod enc Try.prog W base spare held m 2 [c1] = some y1 := h1
    have h2 : DataW.trod enc Try.prog W base spare held m 2 (([c0, c1, c2, c3, c4, c5].drop 2).take (Try.prog.cellsOf 2)) = some y2 := hg 2 _ rfl
    rw [cells_of_int64] at h2
    have g2 : DataW.trod enc Try.prog W base spare held m 2 [c2] = some y2 := h2
    have h3 : DataW.trod enc Try.prog W base spare held m 2 (([c0, c1, c2, c3, c4, c5].drop 3).take (Try.prog.cellsOf 2)) = some y3 := hg 3 _ rfl
    rw [cells_of_int64] at h3
    have g3 : DataW.trod enc Try.prog W base spare held m 2 [c3] = some y3 := h3
    have h4 : DataW.trod enc Try.prog W base spare held m 2 (([c0, c1, c2, c3, c4, c5].drop 4).take (Try.prog.cellsOf 2)) = some y4 := hg 4 _ rfl
    rw [cells_of_int64] at h4
    have g4 : DataW.trod enc Try.prog W base spare held m 2 [c4] = some y4 := h4
    have h5 : DataW.trod enc Try.prog W base spare held m 2 (([c0, c1, c2, c3, c4, c5].drop 5).take (Try.prog.cellsOf 2)) = some y5 := hg 5 _ rfl
    rw [cells_of_int64] at h5
    have g5 : DataW.trod enc Try.prog W base spare held m 2 [c5] = some y5 := h5
    obtain ⟨a0, e0, r0, w0⟩ := DataW.trod_int Try.underlying3 g0
    obtain rfl : c0 = .int .i64 a0 := by simpa using e0
    obtain ⟨a1, e1, r1, w1⟩ := DataW.trod_int Try.underlying2 g1
    obtain rfl : c1 = .int .i64 a1 := by simpa using e1
    obtain ⟨a2, e2, r2, w2⟩ := DataW.trod_int Try.underlying2 g2
    obtain rfl : c2 = .int .i64 a2 := by simpa using e2
    obtain ⟨a3, e3, r3, w3⟩ := DataW.trod_int Try.underlying2 g3
    obtain rfl : c3 = .int .i64 a3 := by simpa using e3
    obtain ⟨a4, e4, r4, w4⟩ := DataW.trod_int Try.underlying2 g4
    obtain rfl : c4 = .int .i64 a4 := by simpa using e4
    obtain ⟨a5, e5, r5, w5⟩ := DataW.trod_int Try.underlying2 g5
    obtain rfl : c5 = .int .i64 a5 := by simpa using e5
    subst r0 r1 r2 r3 r4 r5
    exact ⟨a0, a1, a2, a3, a4, a5, rfl, rfl, rfl, rfl, rfl, rfl, hx, w0, w1, w2, w3, w4, w5⟩
set_option maxRecDepth 100000 in
theorem trod_meas_mk {a0 a1 a2 a3 a4 a5 : Int} (m : Nat) (w0 : (Lit.int .i64 a0).wf = true) (w1 : (Lit.int .i64 a1).wf = true) (w2 : (Lit.int .i64 a2).wf = true) (w3 : (Lit.int .i64 a3).wf = true) (w4 : (Lit.int .i64 a4).wf = true) (w5 : (Lit.int .i64 a5).wf = true) :
    DataW.trod enc Try.prog W base spare held (m + 2) 36 [.int .i64 a0, .int .i64 a1, .int .i64 a2, .int .i64 a3, .int .i64 a4, .int .i64 a5] = some (.agg [.lit (.int .i64 a0), .lit (.int .i64 a1), .lit (.int .i64 a2), .lit (.int .i64 a3), .lit (.int .i64 a4), .lit (.int .i64 a5)], []) := by
  have i0 := trod_int_mk (enc := enc) (w := W) (base := base) (spare := spare) (held := held) m Try.underlying3 w0
  have i1 := trod_int_mk (enc := enc) (w := W) (base := base) (spare := spare) (held := held) m Try.underlying2 w1
  have i2 := trod_int_mk (enc := enc) (w := W) (base := base) (spare := spare) (held := held) m Try.underlying2 w2
  have i3 := trod_int_mk (enc := enc) (w := W) (base := base) (spare := spare) (held := held) m Try.underlying2 w3
  have i4 := trod_int_mk (enc := enc) (w := W) (base := base) (spare := spare) (held := held) m Try.underlying2 w4
  have i5 := trod_int_mk (enc := enc) (w := W) (base := base) (spare := spare) (held := held) m Try.underlying2 w5
  have := trod_struct_mk (enc := enc) (w := W) (base := base) (spare := spare) (held := held) (n := m + 1) (cs := [.int .i64 a0, .int .i64 a1, .int .i64 a2, .int .i64 a3, .int .i64 a4, .int .i64 a5])
    (xs := [(.lit (.int .i64 a0), []), (.lit (.int .i64 a1), []), (.lit (.int .i64 a2), []), (.lit (.int .i64 a3), []), (.lit (.int .i64 a4), []), (.lit (.int .i64 a5), [])]) Try.underlying36 (by rw [cells_of_meas]; rfl)
    (by simp [cells_of_int, cells_of_int64, i0, i1, i2, i3, i4, i5])
  simpa using this
set_option maxRecDepth 100000 in
theorem open_meas {v : Value} {d : DataW H} {p : List MemPlace} (hv : Value.okWide Try.prog W .any b0 36 v) (h : DataW.Trod enc Try.prog W base spare held 36 v d p) :
    ∃ a0 a1 a2 a3 a4 a5 : Int, v = .agg #[.int .i64 a0, .int .i64 a1, .int .i64 a2, .int .i64 a3, .int .i64 a4, .int .i64 a5] ∧ d = .agg [.lit (.int .i64 a0), .lit (.int .i64 a1), .lit (.int .i64 a2), .lit (.int .i64 a3), .lit (.int .i64 a4), .lit (.int .i64 a5)] ∧ p = [] ∧ (Lit.int .i64 a0).wf = true ∧ (Lit.int .i64 a1).wf = true ∧ (Lit.int .i64 a2).wf = true ∧ (Lit.int .i64 a3).wf = true ∧ (Lit.int .i64 a4).wf = true ∧ (Lit.int .i64 a5).wf = true := by
  obtain ⟨cs, rfl, hsz⟩ := okWide_struct Try.underlying36 hv
  obtain ⟨l⟩ := cs
  match l, hsz.trans cells_of_meas with
  | [c0, c1, c2, c3, c4, c5], _ =>
    obtain ⟨fuel, hf⟩ := h
    have hf' : DataW.trod enc Try.prog W base spare held fuel 36 [c0, c1, c2, c3, c4, c5] = some (d, p) := hf
    obtain ⟨a0, a1, a2, a3, a4, a5, rfl, rfl, rfl, rfl, rfl, rfl, hy, w0, w1, w2, w3, w4, w5⟩ := trod_meas hf'
    simp only [Prod.mk.injEq] at hy
    exact ⟨a0, a1, a2, a3, a4, a5, rfl, hy.1, hy.2, w0, w1, w2, w3, w4, w5⟩
set_option maxRecDepth 100000 in
theorem shut_meas {a0 a1 a2 a3 a4 a5 : Int} (w0 : (Lit.int .i64 a0).wf = true) (w1 : (Lit.int .i64 a1).wf = true) (w2 : (Lit.int .i64 a2).wf = true) (w3 : (Lit.int .i64 a3).wf = true) (w4 : (Lit.int .i64 a4).wf = true) (w5 : (Lit.int .i64 a5).wf = true) :
    DataW.Trod enc Try.prog W base spare held 36 (.agg #[.int .i64 a0, .int .i64 a1, .int .i64 a2, .int .i64 a3, .int .i64 a4, .int .i64 a5]) (.agg [.lit (.int .i64 a0), .lit (.int .i64 a1), .lit (.int .i64 a2), .lit (.int .i64 a3), .lit (.int .i64 a4), .lit (.int .i64 a5)]) [] :=
  ⟨2, trod_meas_mk (enc := enc) (W := W) (base := base) (spare := spare) (held := held) 0 w0 w1 w2 w3 w4 w5⟩
set_option maxRecDepth 100000 in
theorem trod_point {n : Nat} {c0 c1 : Value} {y : DataW H × List MemPlace} (h : DataW.trod enc Try.prog W base spare held n 30 [c0, c1] = some y) :
    ∃ a0 a1 : Int, c0 = .int .i64 a0 ∧ c1 = .int .i64 a1 ∧ y = (.agg [.lit (.int .i64 a0), .lit (.int .i64 a1)], []) ∧ (Lit.int .i64 a0).wf = true ∧ (Lit.int .i64 a1).wf = true := by
  obtain ⟨xs, m, _, hx, _, hlen, hg⟩ := DataW.trod_struct Try.underlying30 h
  match xs, hlen with
  | [y0, y1], _ =>
    have h0 : DataW.trod enc Try.prog W base spare held m 2 (([c0, c1].drop 0).take (Try.prog.cellsOf 2)) = some y0 := hg 0 _ rfl
    rw [cells_of_int64] at h0
    have g0 : DataW.trod enc Try.prog W base spare held m 2 [c0] = some y0 := h0
    have h1 : DataW.trod enc Try.prog W base spare held m 2 (([c0, c1].drop 1).take (Try.prog.cellsOf 2)) = some y1 := hg 1 _ rfl
    rw [cells_of_int64] at h1
    have g1 : DataW.trod enc Try.prog W base spare held m 2 [c1] = some y1 := h1
    obtain ⟨a0, e0, r0, w0⟩ := DataW.trod_int Try.underlying2 g0
    obtain rfl : c0 = .int .i64 a0 := by simpa using e0
    obtain ⟨a1, e1, r1, w1⟩ := DataW.trod_int Try.underlying2 g1
    obtain rfl : c1 = .int .i64 a1 := by simpa using e1
    subst r0 r1
    exact ⟨a0, a1, rfl, rfl, hx, w0, w1⟩
set_option maxRecDepth 100000 in
theorem trod_point_mk {a0 a1 : Int} (m : Nat) (w0 : (Lit.int .i64 a0).wf = true) (w1 : (Lit.int .i64 a1).wf = true) :
    DataW.trod enc Try.prog W base spare held (m + 2) 30 [.int .i64 a0, .int .i64 a1] = some (.agg [.lit (.int .i64 a0), .lit (.int .i64 a1)], []) := by
  have i0 := trod_int_mk (enc := enc) (w := W) (base := base) (spare := spare) (held := held) m Try.underlying2 w0
  have i1 := trod_int_mk (enc := enc) (w := W) (base := base) (spare := spare) (held := held) m Try.underlying2 w1
  have := trod_struct_mk (enc := enc) (w := W) (base := base) (spare := spare) (held := held) (n := m + 1) (cs := [.int .i64 a0, .int .i64 a1])
    (xs := [(.lit (.int .i64 a0), []), (.lit (.int .i64 a1), [])]) Try.underlying30 (by rw [cells_of_point]; rfl)
    (by simp [cells_of_int64, i0, i1])
  simpa using this
set_option maxRecDepth 100000 in
theorem open_point {v : Value} {d : DataW H} {p : List MemPlace} (hv : Value.okWide Try.prog W .any b0 30 v) (h : DataW.Trod enc Try.prog W base spare held 30 v d p) :
    ∃ a0 a1 : Int, v = .agg #[.int .i64 a0, .int .i64 a1] ∧ d = .agg [.lit (.int .i64 a0), .lit (.int .i64 a1)] ∧ p = [] ∧ (Lit.int .i64 a0).wf = true ∧ (Lit.int .i64 a1).wf = true := by
  obtain ⟨cs, rfl, hsz⟩ := okWide_struct Try.underlying30 hv
  obtain ⟨l⟩ := cs
  match l, hsz.trans cells_of_point with
  | [c0, c1], _ =>
    obtain ⟨fuel, hf⟩ := h
    have hf' : DataW.trod enc Try.prog W base spare held fuel 30 [c0, c1] = some (d, p) := hf
    obtain ⟨a0, a1, rfl, rfl, hy, w0, w1⟩ := trod_point hf'
    simp only [Prod.mk.injEq] at hy
    exact ⟨a0, a1, rfl, hy.1, hy.2, w0, w1⟩
set_option maxRecDepth 100000 in
theorem shut_point {a0 a1 : Int} (w0 : (Lit.int .i64 a0).wf = true) (w1 : (Lit.int .i64 a1).wf = true) :
    DataW.Trod enc Try.prog W base spare held 30 (.agg #[.int .i64 a0, .int .i64 a1]) (.agg [.lit (.int .i64 a0), .lit (.int .i64 a1)]) [] :=
  ⟨2, trod_point_mk (enc := enc) (W := W) (base := base) (spare := spare) (held := held) 0 w0 w1⟩
instance : Inhabited Ms := ⟨ms0⟩
set_option maxRecDepth 100000 in
/-- a parameter that is a slice of measurements -/
theorem open_list {v : Value} {d : DataW H} {p : List MemPlace} (hv : Value.okWide Try.prog W .any b0 22 v) (h : DataW.Trod enc Try.prog W 0 (fun _ => true) true 22 v d p) :
    ∃ l : List Ms, LstAt l v W := by
  have hok := hv
  simp only [Value.okWide, Try.underlying22, Cell.okWide] at hok
  obtain ⟨fuel, hf⟩ := h
  obtain ⟨ao, len, cap, rfl⟩ := okWide_slice Try.underlying22 hv
  rcases Go.Deep.open_slice Try.underlying22 hf with ⟨hc, _⟩ | ⟨a, len', cap', m, n, D, Pl, hc, _, hlc, _, hm, _, hi⟩
  · have hc' : [Value.slice ao len cap] = [Value.slice none 0 0] := hc
    exact ⟨[], .inl ⟨List.cons.inj hc' |>.1, rfl⟩⟩
  · have hc0 : [Value.slice ao len cap] = [Value.slice (some a) len' cap'] := hc
    have hc' := (List.cons.inj hc0).1
    clear hc0
    cases hc'
    simp only [if_true] at hm
    subst hm
    have hhas : len ≤ m ∧ (m : Int) ≤ IntKind.i64.max ∧ W.has Try.prog .any b0 a 36 m := by simpa [Cell.ok, Try.underlying22] using hok
    obtain ⟨_, hmax, _, hsp, row, cells, hsh, _⟩ := hhas
    have hlt : a.block < W.heap.size := by
      unfold World.shape? at hsh
      split at hsh
      · rename_i q
        exact (Array.getElem?_eq_some_iff.1 q).1
      · cases hsh
    have key : ∀ i, i < len → ∃ x : Ms, W.cell? ⟨a.block, a.off + i * 6, none⟩ = some (.int .i64 x.s) ∧ W.cell? ⟨a.block, a.off + i * 6 + 1, none⟩ = some (.int .i64 x.a) ∧ W.cell? ⟨a.block, a.off + i * 6 + 2, none⟩ = some (.int .i64 x.b) ∧ W.cell? ⟨a.block, a.off + i * 6 + 3, none⟩ = some (.int .i64 x.z) ∧ W.cell? ⟨a.block, a.off + i * 6 + 4, none⟩ = some (.int .i64 x.d) ∧ W.cell? ⟨a.block, a.off + i * 6 + 5, none⟩ = some (.int .i64 x.w) := by
      intro i hil
      obtain ⟨cs, hcs, ht⟩ := hi i (by omega)
      rw [cells_of_meas] at hcs
      obtain ⟨_, hl, hat⟩ := World.cells?_some hcs
      match cs, hl with
      | [c0, c1, c2, c3, c4, c5], _ =>
        obtain ⟨a0, a1, a2, a3, a4, a5, rfl, rfl, rfl, rfl, rfl, rfl, _⟩ := trod_meas ht
        have ad : ∀ j, (a.add (i * 6)).add j = ⟨a.block, a.off + i * 6 + j, none⟩ := fun j => by
          rw [Go.Deep.add_add]
          unfold Addr.add
          obtain ⟨ab, af, asp⟩ := a
          simp only at hsp
          subst hsp
          split
          · rename_i e
            simp only [Addr.mk.injEq, and_true, true_and]
            omega
          · simp only [Addr.mk.injEq, and_true, true_and]
            omega
        refine ⟨⟨a0, a1, a2, a3, a4, a5⟩, ?_, ?_, ?_, ?_, ?_, ?_⟩
        · have := hat 0 (by omega); rw [ad] at this; exact this
        · have := hat 1 (by omega); rw [ad] at this; exact this
        · have := hat 2 (by omega); rw [ad] at this; exact this
        · have := hat 3 (by omega); rw [ad] at this; exact this
        · have := hat 4 (by omega); rw [ad] at this; exact this
        · have := hat 5 (by omega); rw [ad] at this; exact this
    obtain ⟨f, hf⟩ := Go.Deep.choose_lt key
    have hlen : ((List.range len).map f).length = len := by simp
    have hn : ∀ i, i < len → nth ((List.range len).map f) i = f i := fun i hil => by
      unfold nth
      rw [List.getD_eq_getElem?_getD, List.getElem?_map, List.getElem?_range hil]
      rfl
    obtain ⟨ab, af, asp⟩ := a
    simp only at hsp
    subst hsp
    refine ⟨(List.range len).map f, .inr ⟨ab, af, m, by rw [hlen], by rw [hlen]; exact hlc, by simp [IntKind.max, IntKind.signed, IntKind.bits] at hmax; omega, hlt, ?_, ?_, ?_, ?_, ?_, ?_⟩⟩
    all_goals
      intro i hil
      rw [hlen] at hil
      rw [hn i hil]
    · exact (hf i hil).1
    · exact (hf i hil).2.1
    · exact (hf i hil).2.2.1
    · exact (hf i hil).2.2.2.1
    · exact (hf i hil).2.2.2.2.1
    · exact (hf i hil).2.2.2.2.2
end
end Go.Proofs.Ytplgdlooglnpmaa
