/-
  Walks and laws of the layers below, gathered from several texts.
-/
import Derived.Test.YtplgdlooglnpmaaGreatSX6
namespace Go.Proofs.YtplgdlooglnpmaaGreat
set_option linter.unusedVariables false
open Go.ChangeShapes Go.WideShapes Go.ChangeAt Go.RowKit Go.Joins

/-- a report -/
structure Rp where
  s : Int
  k : Int
  x : Int
  y : Int
  v : Int
  b : Int
  wt : Int
  t : Int
def rp0 : Rp := ⟨0, 0, 0, 0, 0, 0, 0, 0⟩
def nthR (l : List Rp) (i : Nat) : Rp := l.getD i rp0
structure RpAt (l : List Rp) (b o : Nat) (w : World) : Prop where
  lt : b < w.heap.size
  c0 : ∀ i, i < l.length → w.cell? ⟨b, o + i * 8, none⟩ = some (.int .i64 (nthR l i).s)
  c1 : ∀ i, i < l.length → w.cell? ⟨b, o + i * 8 + 1, none⟩ = some (.int .u8 (nthR l i).k)
  c2 : ∀ i, i < l.length → w.cell? ⟨b, o + i * 8 + 2, none⟩ = some (.int .i64 (nthR l i).x)
  c3 : ∀ i, i < l.length → w.cell? ⟨b, o + i * 8 + 3, none⟩ = some (.int .i64 (nthR l i).y)
  c4 : ∀ i, i < l.length → w.cell? ⟨b, o + i * 8 + 4, none⟩ = some (.int .i64 (nthR l i).v)
  c5 : ∀ i, i < l.length → w.cell? ⟨b, o + i * 8 + 5, none⟩ = some (.int .i64 (nthR l i).b)
  c6 : ∀ i, i < l.length → w.cell? ⟨b, o + i * 8 + 6, none⟩ = some (.int .i64 (nthR l i).wt)
  c7 : ∀ i, i < l.length → w.cell? ⟨b, o + i * 8 + 7, none⟩ = some (.int .i64 (nthR l i).t)
theorem RpAt.below {l : List Rp} {b o : Nat} {w w' : World} (h : RpAt l b o w) (hb : Below w.heap.size w w') : RpAt l b o w' :=
  ⟨Nat.lt_of_lt_of_le h.lt hb.size, fun i hi => (hb.cell (p := ⟨b, o + i * 8, none⟩) h.lt).trans (h.c0 i hi), fun i hi => (hb.cell (p := ⟨b, o + i * 8 + 1, none⟩) h.lt).trans (h.c1 i hi), fun i hi => (hb.cell (p := ⟨b, o + i * 8 + 2, none⟩) h.lt).trans (h.c2 i hi), fun i hi => (hb.cell (p := ⟨b, o + i * 8 + 3, none⟩) h.lt).trans (h.c3 i hi), fun i hi => (hb.cell (p := ⟨b, o + i * 8 + 4, none⟩) h.lt).trans (h.c4 i hi), fun i hi => (hb.cell (p := ⟨b, o + i * 8 + 5, none⟩) h.lt).trans (h.c5 i hi), fun i hi => (hb.cell (p := ⟨b, o + i * 8 + 6, none⟩) h.lt).trans (h.c6 i hi), fun i hi => (hb.cell (p := ⟨b, o + i * 8 + 7, none⟩) h.lt).trans (h.c7 i hi)⟩
/-- a value is a slice that holds these reports -/
def RlAt (l : List Rp) (v : Value) (w : World) : Prop := (v = .slice none 0 0 ∧ l = []) ∨ ∃ b o cap, v = .slice (some ⟨b, o, none⟩) l.length cap ∧ l.length ≤ cap ∧ cap ≤ 9223372036854775807 ∧ RpAt l b o w
theorem RlAt.below {l : List Rp} {v : Value} {w w' : World} (h : RlAt l v w) (hb : Below w.heap.size w w') : RlAt l v w' := by
  rcases h with h | ⟨b, o, cap, h1, h2, h3, h4⟩
  · exact .inl h
  · exact .inr ⟨b, o, cap, h1, h2, h3, h4.below hb⟩
theorem rl_form {l : List Rp} {v : Value} {w : World} (h : RlAt l v w) : ∃ p cap, v = .slice p l.length cap := by
  rcases h with ⟨rfl, rfl⟩ | ⟨b, o, cap, rfl, _⟩
  · exact ⟨none, 0, rfl⟩
  · exact ⟨_, _, rfl⟩
theorem rl_at {l : List Rp} {p : Option Addr} {cap : Nat} {w : World} (h : RlAt l (.slice p l.length cap) w) {k : Nat} (q : k < l.length) : ∃ b o, p = some ⟨b, o, none⟩ ∧ l.length ≤ cap ∧ cap ≤ 9223372036854775807 ∧ RpAt l b o w := by
  rcases h with ⟨_, rfl⟩ | ⟨b, o, cap', e, h2, h3, h4⟩
  · exact absurd q (by simp)
  · injection e with e1 e2 e3
    subst e3
    exact ⟨b, o, e1, h2, h3, h4⟩
theorem cells_of_api_ReportKind : Tryz.prog.cellsOf 38 = 1 := by kernel_rfl
theorem cells_of_report : Tryz.prog.cellsOf 40 = 8 := by kernel_rfl
theorem cells_of_box : Tryz.prog.cellsOf 28 = 4 := by kernel_rfl

section
variable {H : Type} {enc : TypeId × Value → H} {W : World} {base : Nat} {spare : Nat → Bool} {held : Bool} {b0 : Nat}

set_option maxRecDepth 100000 in
theorem trod_report {n : Nat} {c0 c1 c2 c3 c4 c5 c6 c7 : Value} {y : DataW H × List MemPlace} (h : DataW.trod enc Tryz.prog W base spare held n 40 [c0, c1, c2, c3, c4, c5, c6, c7] = some y) :
    ∃ a0 a1 a2 a3 a4 a5 a6 a7 : Int, c0 = .int .i64 a0 ∧ c1 = .int .u8 a1 ∧ c2 = .int .i64 a2 ∧ c3 = .int .i64 a3 ∧ c4 = .int .i64 a4 ∧ c5 = .int .i64 a5 ∧ c6 = .int .i64 a6 ∧ c7 = .int .i64 a7 ∧ y = (.agg [.lit (.int .i64 a0), .lit (.int .u8 a1), .agg [.lit (.int .i64 a2), .lit (.int .i64 a3)], .lit (.int .i64 a4), .lit (.int .i64 a5), .lit (.int .i64 a6), .lit (.int .i64 a7)], []) ∧ (Lit.int .i64 a0).wf = true ∧ (Lit.int .u8 a1).wf = true ∧ (Lit.int .i64 a2).wf = true ∧ (Lit.int .i64 a3).wf = true ∧ (Lit.int .i64 a4).wf = true ∧ (Lit.int .i64 a5).wf = true ∧ (Lit.int .i64 a6).wf = true ∧ (Lit.int .i64 a7).wf = true := by
  obtain ⟨xs, m, _, hx, _, hlen, hg⟩ := DataW.trod_struct Tryz.underlying40 h
  match xs, hlen with
  | [y0, y1, y2, y3, y4, y5, y6], _ =>
    have h0 : DataW.trod enc Tryz.prog W base spare held m 3 (([c0, c1, c2, c3, c4, c5, c6, c7].drop 0).take (Tryz.prog.cellsOf 3)) = some y0 := hg 0 _ rfl
    rw [cells_of_int] at h0
    have g0 : DataW.trod enc Tryz.prog W base spare held m 3 [c0] = some y0 := h0
    have h1 : DataW.trod enc Tryz.prog W base spare held m 38 (([c0, c1, c2, c3, c4, c5, c6, c7].drop 1).take (Tryz.prog.cellsOf 38)) = some y1 := hg 1 _ rfl
    rw [cells_of_api_ReportKind] at h1
    have g1 : DataW.trod enc Tryz.prog W base spare held m 38 [c1] = some y1 := h1
    have h2 : DataW.trod enc Tryz.prog W base spare held m 26 (([c0, c1, c2, c3, c4, c5, c6, c7].drop 2).take (Tryz.prog.cellsOf 26)) = some y2 := hg 2 _ rfl
    rw [cells_of_point] at h2
    have g2 : DataW.trod enc Tryz.prog W base spare held m 26 [c2, c3] = some y2 := h2
    have h3 : DataW.trod enc Tryz.prog W base spare held m 2 (([c0, c1, c2, c3, c4, c5, c6, c7].drop 4).take (Tryz.prog.cellsOf 2)) = some y3 := hg 3 _ rfl
    rw [cells_of_int64] at h3
    have g3 : DataW.trod enc Tryz.prog W base spare held m 2 [c4] = some y3 := h3
    have h4 : DataW.trod enc Tryz.prog W base spare held m 2 (([c0, c1, c2, c3, c4, c5, c6, c7].drop 5).take (Tryz.prog.cellsOf 2)) = some y4 := hg 4 _ rfl
    rw [cells_of_int64] at h4
    have g4 : DataW.trod enc Tryz.prog W base spare held m 2 [c5] = some y4 := h4
    have h5 : DataW.trod enc Tryz.prog W base spare held m 2 (([c0, c1, c2, c3, c4, c5, c6, c7].drop 6).take (Tryz.prog.cellsOf 2)) = some y5 := hg 5 _ rfl
    rw [cells_of_int64] at h5
    have g5 : DataW.trod enc Tryz.prog W base spare held m 2 [c6] = some y5 := h5
    have h6 : DataW.trod enc Tryz.prog W base spare held m 2 (([c0, c1, c2, c3, c4, c5, c6, c7].drop 7).take (Tryz.prog.cellsOf 2)) = some y6 := hg 6 _ rfl
    rw [cells_of_int64] at h6
    have g6 : DataW.trod enc Tryz.prog W base spare held m 2 [c7] = some y6 := h6
    obtain ⟨a0, e0, r0, w0⟩ := DataW.trod_int Tryz.underlying3 g0
    obtain rfl : c0 = .int .i64 a0 := by simpa using e0
    obtain ⟨a1, e1, r1, w1⟩ := DataW.trod_int Tryz.underlying38 g1
    obtain rfl : c1 = .int .u8 a1 := by simpa using e1
    obtain ⟨a2, a3, rfl, rfl, r2, w2, w3⟩ := trod_point g2
    obtain ⟨a4, e4, r3, w4⟩ := DataW.trod_int Tryz.underlying2 g3
    obtain rfl : c4 = .int .i64 a4 := by simpa using e4
    obtain ⟨a5, e5, r4, w5⟩ := DataW.trod_int Tryz.underlying2 g4
    obtain rfl : c5 = .int .i64 a5 := by simpa using e5
    obtain ⟨a6, e6, r5, w6⟩ := DataW.trod_int Tryz.underlying2 g5
    obtain rfl : c6 = .int .i64 a6 := by simpa using e6
    obtain ⟨a7, e7, r6, w7⟩ := DataW.trod_int Tryz.underlying2 g6
    obtain rfl : c7 = .int .i64 a7 := by simpa using e7
    subst r0 r1 r2 r3 r4 r5 r6
    exact ⟨a0, a1, a2, a3, a4, a5, a6, a7, rfl, rfl, rfl, rfl, rfl, rfl, rfl, rfl, hx, w0, w1, w2, w3, w4, w5, w6, w7⟩
set_option maxRecDepth 100000 in
theorem trod_box {n : Nat} {c0 c1 c2 c3 : Value} {y : DataW H × List MemPlace} (h : DataW.trod enc Tryz.prog W base spare held n 28 [c0, c1, c2, c3] = some y) :
    ∃ a0 a1 a2 a3 : Int, c0 = .int .i64 a0 ∧ c1 = .int .i64 a1 ∧ c2 = .int .i64 a2 ∧ c3 = .int .i64 a3 ∧ y = (.agg [.agg [.lit (.int .i64 a0), .lit (.int .i64 a1)], .lit (.int .i64 a2), .lit (.int .i64 a3)], []) ∧ (Lit.int .i64 a0).wf = true ∧ (Lit.int .i64 a1).wf = true ∧ (Lit.int .i64 a2).wf = true ∧ (Lit.int .i64 a3).wf = true := by
  obtain ⟨xs, m, _, hx, _, hlen, hg⟩ := DataW.trod_struct Tryz.underlying28 h
  match xs, hlen with
  | [y0, y1, y2], _ =>
    have h0 : DataW.trod enc Tryz.prog W base spare held m 26 (([c0, c1, c2, c3].drop 0).take (Tryz.prog.cellsOf 26)) = some y0 := hg 0 _ rfl
    rw [cells_of_point] at h0
    have g0 : DataW.trod enc Tryz.prog W base spare held m 26 [c0, c1] = some y0 := h0
    have h1 : DataW.trod enc Tryz.prog W base spare held m 2 (([c0, c1, c2, c3].drop 2).take (Tryz.prog.cellsOf 2)) = some y1 := hg 1 _ rfl
    rw [cells_of_int64] at h1
    have g1 : DataW.trod enc Tryz.prog W base spare held m 2 [c2] = some y1 := h1
    have h2 : DataW.trod enc Tryz.prog W base spare held m 2 (([c0, c1, c2, c3].drop 3).take (Tryz.prog.cellsOf 2)) = some y2 := hg 2 _ rfl
    rw [cells_of_int64] at h2
    have g2 : DataW.trod enc Tryz.prog W base spare held m 2 [c3] = some y2 := h2
    obtain ⟨a0, a1, rfl, rfl, r0, w0, w1⟩ := trod_point g0
    obtain ⟨a2, e2, r1, w2⟩ := DataW.trod_int Tryz.underlying2 g1
    obtain rfl : c2 = .int .i64 a2 := by simpa using e2
    obtain ⟨a3, e3, r2, w3⟩ := DataW.trod_int Tryz.underlying2 g2
    obtain rfl : c3 = .int .i64 a3 := by simpa using e3
    subst r0 r1 r2
    exact ⟨a0, a1, a2, a3, rfl, rfl, rfl, rfl, hx, w0, w1, w2, w3⟩
set_option maxRecDepth 100000 in
theorem trod_box_mk {a0 a1 a2 a3 : Int} (m : Nat) (w0 : (Lit.int .i64 a0).wf = true) (w1 : (Lit.int .i64 a1).wf = true) (w2 : (Lit.int .i64 a2).wf = true) (w3 : (Lit.int .i64 a3).wf = true) :
    DataW.trod enc Tryz.prog W base spare held (m + 3) 28 [.int .i64 a0, .int .i64 a1, .int .i64 a2, .int .i64 a3] = some (.agg [.agg [.lit (.int .i64 a0), .lit (.int .i64 a1)], .lit (.int .i64 a2), .lit (.int .i64 a3)], []) := by
  have i0 := trod_point_mk (enc := enc) (W := W) (base := base) (spare := spare) (held := held) m w0 w1
  have i1 := trod_int_mk (enc := enc) (w := W) (base := base) (spare := spare) (held := held) (m + 1) Tryz.underlying2 w2
  have i2 := trod_int_mk (enc := enc) (w := W) (base := base) (spare := spare) (held := held) (m + 1) Tryz.underlying2 w3
  have := trod_struct_mk (enc := enc) (w := W) (base := base) (spare := spare) (held := held) (n := m + 2) (cs := [.int .i64 a0, .int .i64 a1, .int .i64 a2, .int .i64 a3])
    (xs := [(.agg [.lit (.int .i64 a0), .lit (.int .i64 a1)], []), (.lit (.int .i64 a2), []), (.lit (.int .i64 a3), [])]) Tryz.underlying28 (by rw [cells_of_box]; rfl)
    (by simp [cells_of_int64, cells_of_point, i0, i1, i2])
  simpa using this
set_option maxRecDepth 100000 in
theorem open_box {v : Value} {d : DataW H} {p : List MemPlace} (hv : Value.okWide Tryz.prog W .any b0 28 v) (h : DataW.Trod enc Tryz.prog W base spare held 28 v d p) :
    ∃ a0 a1 a2 a3 : Int, v = .agg #[.int .i64 a0, .int .i64 a1, .int .i64 a2, .int .i64 a3] ∧ d = .agg [.agg [.lit (.int .i64 a0), .lit (.int .i64 a1)], .lit (.int .i64 a2), .lit (.int .i64 a3)] ∧ p = [] ∧ (Lit.int .i64 a0).wf = true ∧ (Lit.int .i64 a1).wf = true ∧ (Lit.int .i64 a2).wf = true ∧ (Lit.int .i64 a3).wf = true := by
  obtain ⟨cs, rfl, hsz⟩ := okWide_struct Tryz.underlying28 hv
  obtain ⟨l⟩ := cs
  match l, hsz.trans cells_of_box with
  | [c0, c1, c2, c3], _ =>
    obtain ⟨fuel, hf⟩ := h
    have hf' : DataW.trod enc Tryz.prog W base spare held fuel 28 [c0, c1, c2, c3] = some (d, p) := hf
    obtain ⟨a0, a1, a2, a3, rfl, rfl, rfl, rfl, hy, w0, w1, w2, w3⟩ := trod_box hf'
    simp only [Prod.mk.injEq] at hy
    exact ⟨a0, a1, a2, a3, rfl, hy.1, hy.2, w0, w1, w2, w3⟩
set_option maxRecDepth 100000 in
theorem shut_box {a0 a1 a2 a3 : Int} (w0 : (Lit.int .i64 a0).wf = true) (w1 : (Lit.int .i64 a1).wf = true) (w2 : (Lit.int .i64 a2).wf = true) (w3 : (Lit.int .i64 a3).wf = true) :
    DataW.Trod enc Tryz.prog W base spare held 28 (.agg #[.int .i64 a0, .int .i64 a1, .int .i64 a2, .int .i64 a3]) (.agg [.agg [.lit (.int .i64 a0), .lit (.int .i64 a1)], .lit (.int .i64 a2), .lit (.int .i64 a3)]) [] :=
  ⟨3, trod_box_mk (enc := enc) (W := W) (base := base) (spare := spare) (held := held) 0 w0 w1 w2 w3⟩
instance : Inhabited Rp := ⟨rp0⟩
set_option maxRecDepth 100000 in
/-- a parameter that is a slice of reports -/
theorem open_reports {v : Value} {d : DataW H} {p : List MemPlace} (hv : Value.okWide Tryz.prog W .any b0 35 v) (h : DataW.Trod enc Tryz.prog W 0 (fun _ => true) true 35 v d p) :
    ∃ l : List Rp, RlAt l v W ∧ ∀ i, i < l.length → 0 ≤ (nthR l i).k ∧ (nthR l i).k ≤ 255 := by
  have hok := hv
  simp only [Value.okWide, Tryz.underlying35, Cell.okWide] at hok
  obtain ⟨fuel, hf⟩ := h
  obtain ⟨ao, len, cap, rfl⟩ := okWide_slice Tryz.underlying35 hv
  rcases Go.Deep.open_slice Tryz.underlying35 hf with ⟨hc, _⟩ | ⟨a, len', cap', m, n, D, Pl, hc, _, hlc, _, hm, _, hi⟩
  · have hc' : [Value.slice ao len cap] = [Value.slice none 0 0] := hc
    exact ⟨[], .inl ⟨List.cons.inj hc' |>.1, rfl⟩, fun i hi => absurd hi (by simp)⟩
  · have hc0 : [Value.slice ao len cap] = [Value.slice (some a) len' cap'] := hc
    have hc' := (List.cons.inj hc0).1
    clear hc0
    cases hc'
    simp only [if_true] at hm
    subst hm
    have hhas : len ≤ m ∧ (m : Int) ≤ IntKind.i64.max ∧ W.has Tryz.prog .any b0 a 40 m := by simpa [Cell.ok, Tryz.underlying35] using hok
    obtain ⟨_, hmax, _, hsp, row, cells, hsh, _⟩ := hhas
    have hlt : a.block < W.heap.size := by
      unfold World.shape? at hsh
      split at hsh
      · rename_i q
        exact (Array.getElem?_eq_some_iff.1 q).1
      · cases hsh
    have key : ∀ i, i < len → ∃ x : Rp, (0 ≤ x.k ∧ x.k ≤ 255) ∧ W.cell? ⟨a.block, a.off + i * 8, none⟩ = some (.int .i64 x.s) ∧ W.cell? ⟨a.block, a.off + i * 8 + 1, none⟩ = some (.int .u8 x.k) ∧ W.cell? ⟨a.block, a.off + i * 8 + 2, none⟩ = some (.int .i64 x.x) ∧ W.cell? ⟨a.block, a.off + i * 8 + 3, none⟩ = some (.int .i64 x.y) ∧ W.cell? ⟨a.block, a.off + i * 8 + 4, none⟩ = some (.int .i64 x.v) ∧ W.cell? ⟨a.block, a.off + i * 8 + 5, none⟩ = some (.int .i64 x.b) ∧ W.cell? ⟨a.block, a.off + i * 8 + 6, none⟩ = some (.int .i64 x.wt) ∧ W.cell? ⟨a.block, a.off + i * 8 + 7, none⟩ = some (.int .i64 x.t) := by
      intro i hil
      obtain ⟨cs, hcs, ht⟩ := hi i (by omega)
      rw [cells_of_report] at hcs
      obtain ⟨_, hl, hat⟩ := World.cells?_some hcs
      match cs, hl with
      | [c0, c1, c2, c3, c4, c5, c6, c7], _ =>
        obtain ⟨a0, a1, a2, a3, a4, a5, a6, a7, rfl, rfl, rfl, rfl, rfl, rfl, rfl, rfl, _, _, hk, _⟩ := trod_report ht
        have ad : ∀ j, (a.add (i * 8)).add j = ⟨a.block, a.off + i * 8 + j, none⟩ := fun j => by
          rw [Go.Deep.add_add]
          unfold Addr.add
          obtain ⟨ab, af, asp⟩ := a
          simp only at hsp
          subst hsp
          split
          · rename_i e
            simp only [Addr.mk.injEq, and_true, true_and]
            omega
          · simp only [Addr.mk.injEq, and_true, true_and]
            omega
        have hk' : 0 ≤ a1 ∧ a1 ≤ 255 := by simp [Lit.wf, IntKind.min, IntKind.max, IntKind.signed, IntKind.bits] at hk; omega
        refine ⟨⟨a0, a1, a2, a3, a4, a5, a6, a7⟩, hk', ?_, ?_, ?_, ?_, ?_, ?_, ?_, ?_⟩
        · have := hat 0 (by omega); rw [ad] at this; exact this
        · have := hat 1 (by omega); rw [ad] at this; exact this
        · have := hat 2 (by omega); rw [ad] at this; exact this
        · have := hat 3 (by omega); rw [ad] at this; exact this
        · have := hat 4 (by omega); rw [ad] at this; exact this
        · have := hat 5 (by omega); rw [ad] at this; exact this
        · have := hat 6 (by omega); rw [ad] at this; exact this
        · have := hat 7 (by omega); rw [ad] at this; exact this
    obtain ⟨f, hf⟩ := Go.Deep.choose_lt key
    have hlen : ((List.range len).map f).length = len := by simp
    have hn : ∀ i, i < len → nthR ((List.range len).map f) i = f i := fun i hil => by
      unfold nthR
      rw [List.getD_eq_getElem?_getD, List.getElem?_map, List.getElem?_range hil]
      rfl
    obtain ⟨ab, af, asp⟩ := a
    simp only at hsp
    subst hsp
    refine ⟨(List.range len).map f, .inr ⟨ab, af, m, by rw [hlen], by rw [hlen]; exact hlc, by simp [IntKind.max, IntKind.signed, IntKind.bits] at hmax; omega, hlt, ?_, ?_, ?_, ?_, ?_, ?_, ?_, ?_⟩, fun i hil => ?_⟩
    rotate_left 8
    · rw [hlen] at hil
      rw [hn i hil]
      exact (hf i hil).1
    all_goals
      intro i hil
      rw [hlen] at hil
      rw [hn i hil]
    · exact (hf i hil).2.1
    · exact (hf i hil).2.2.1
    · exact (hf i hil).2.2.2.1
    · exact (hf i hil).2.2.2.2.1
    · exact (hf i hil).2.2.2.2.2.1
    · exact (hf i hil).2.2.2.2.2.2.1
    · exact (hf i hil).2.2.2.2.2.2.2.1
    · exact (hf i hil).2.2.2.2.2.2.2.2
end
end Go.Proofs.YtplgdlooglnpmaaGreat
