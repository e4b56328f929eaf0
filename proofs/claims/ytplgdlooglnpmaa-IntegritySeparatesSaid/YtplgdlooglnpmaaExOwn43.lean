/-
  Slices of exact solutions that a call has built.
-/
import Derived.Test.YtplgdlooglnpmaaSrc43
import Derived.Test.YtplgdlooglnpmaaProtPlain
import Derived.Test.YtplgdlooglnpmaaWideOne
namespace Go.Proofs.Ytplgdlooglnpmaa
set_option linter.unusedVariables false
open Go.RowKit

/-- an exact solution with its noise -/
structure Ex where
  x : Int
  y : Int
  u : Int
  v : Int
  t : Int
def ex0 : Ex := ⟨0, 0, 0, 0, 0⟩
def nthE (l : List Ex) (i : Nat) : Ex := l.getD i ex0
theorem nthE_eq {l : List Ex} {i : Nat} (h : i < l.length) : nthE l i = l[i] := by
  unfold nthE
  rw [List.getD_eq_getElem?_getD, List.getElem?_eq_getElem h]
  rfl
def exC (l : List Ex) : List Value := l.flatMap fun m => [Value.int .i64 (hiW m.x), Value.int .u64 (loW m.x), Value.int .i64 (hiW m.y), Value.int .u64 (loW m.y), Value.int .i64 (hiW m.u), Value.int .u64 (loW m.u), Value.int .i64 (hiW m.v), Value.int .u64 (loW m.v), Value.int .i64 m.t]
theorem exC_append (l k : List Ex) : exC (l ++ k) = exC l ++ exC k := by unfold exC; rw [List.flatMap_append]
theorem exC_len (l : List Ex) : (exC l).length = l.length * 9 := by
  induction l with
  | nil => rfl
  | cons m r ih =>
    unfold exC at *
    rw [List.flatMap_cons, List.length_append, ih]
    simp
    omega
theorem exC_get : ∀ (l : List Ex) (i : Nat) (h : i < l.length), (exC l)[i * 9]? = some (.int .i64 (hiW l[i].x)) ∧ (exC l)[i * 9 + 1]? = some (.int .u64 (loW l[i].x)) ∧ (exC l)[i * 9 + 2]? = some (.int .i64 (hiW l[i].y)) ∧ (exC l)[i * 9 + 3]? = some (.int .u64 (loW l[i].y)) ∧ (exC l)[i * 9 + 4]? = some (.int .i64 (hiW l[i].u)) ∧ (exC l)[i * 9 + 5]? = some (.int .u64 (loW l[i].u)) ∧ (exC l)[i * 9 + 6]? = some (.int .i64 (hiW l[i].v)) ∧ (exC l)[i * 9 + 7]? = some (.int .u64 (loW l[i].v)) ∧ (exC l)[i * 9 + 8]? = some (.int .i64 l[i].t)
  | [], i, h => absurd h (by simp)
  | p :: l, 0, h => ⟨rfl, rfl, rfl, rfl, rfl, rfl, rfl, rfl, rfl⟩
  | p :: l, i + 1, h => by
    obtain ⟨a, b, c, d, e, f, g, h, k⟩ := exC_get l i (by simpa using h)
    unfold exC at *
    rw [List.flatMap_cons, show (i + 1) * 9 = i * 9 + 9 by omega]
    exact ⟨a, b, c, d, e, f, g, h, k⟩
/-- a slice of the call's own that holds these solutions -/
def OE (B : Nat) (w : World) (v : Value) (l : List Ex) : Prop := w.ownsRow B 57 9 v l.length (exC l)
theorem infoEx : (Try.prog.info? 57).map (fun i => (i.zero, i.size, i.bytes)) = some (some (.agg #[.int .i64 0, .int .u64 0, .int .i64 0, .int .u64 0, .int .i64 0, .int .u64 0, .int .i64 0, .int .u64 0, .int .i64 0]), 9, 72) := by kernel_rfl
theorem wpList_oe {ops : Array Oper} {rest : List Oper} {o : Oper} {a : Act} {Q : Exit → Act → World → Prop} (hgd : o.guard = none) (s x : Operand)
    (ho : o.op = .call { callee := .builtin .append, args := #[s, x], argTypes := #[61, 61] })
    (B : Nat) (v : Value) (l : List Ex) (hs : a.eval s = v) (w0 : World) (h : OE B w0 v l) (T : TypeId) (p : Ex) (c : Nat)
    (hx : a.eval x = .slice (some ⟨w0.heap.size, 0, none⟩) 1 c) (hl : l.length ≤ 100000) (hB : B ≤ w0.heap.size)
    (H : ∀ v' w', OE B w' v' (l ++ [p]) → (w0.alloc (.cells #[.int .i64 (hiW p.x), .int .u64 (loW p.x), .int .i64 (hiW p.y), .int .u64 (loW p.y), .int .i64 (hiW p.u), .int .u64 (loW p.u), .int .i64 (hiW p.v), .int .u64 (loW p.v), .int .i64 p.t] T)).grownBy w' v.ownBlock → (v'.ownBlock = v.ownBlock ∨ v'.ownBlock = some (w0.heap.size + 1)) → wpList Try.prog ops Q rest (a.put o.dst v') w') :
    wpList Try.prog ops Q (o :: rest) a (w0.alloc (.cells #[.int .i64 (hiW p.x), .int .u64 (loW p.x), .int .i64 (hiW p.y), .int .u64 (loW p.y), .int .i64 (hiW p.u), .int .u64 (loW p.u), .int .i64 (hiW p.v), .int .u64 (loW p.v), .int .i64 p.t] T)) := by
  obtain ⟨i0, hi, hz0, hz1, hz2⟩ := info_parts infoEx
  refine wpList_append_own_at _ hgd s x 61 ho B 57 i0 (.agg #[.int .i64 0, .int .u64 0, .int .i64 0, .int .u64 0, .int .i64 0, .int .u64 0, .int .i64 0, .int .u64 0, .int .i64 0]) 9 72 Try.underlying61 hi hz0 hz1 hz2 rfl (by decide) v l.length (exC l) hs (World.ownsRow.alloc h _) ⟨w0.heap.size, 0, none⟩ 1 c (exC [p]) hx (by rw [exC_len]; rfl) ?_ ?_ (by unfold maxLen; omega) (by omega) (by simp; omega) ?_
  · intro j u hu
    have hadd : (⟨w0.heap.size, 0, none⟩ : Addr).add j = ⟨w0.heap.size, j, none⟩ := by unfold Addr.add; split <;> simp_all
    rw [hadd, World.cell?_alloc_at _ _ _ _ (by rfl)]
    unfold exC at hu
    simpa using hu
  · intro u hu
    unfold exC at hu
    simp only [List.flatMap_cons, List.flatMap_nil, List.append_nil, List.mem_cons, List.not_mem_nil, or_false] at hu
    rcases hu with rfl | rfl | rfl | rfl | rfl | rfl | rfl | rfl | rfl <;> rfl
  · intro v' w' ho' hg _ hat
    refine H v' w' (by unfold OE; rw [List.length_append, exC_append]; exact ho') hg ?_
    simpa using hat
structure ExAt (l : List Ex) (g : Nat) (w : World) : Prop where
  lt : g < w.heap.size
  c0 : ∀ i, i < l.length → w.cell? ⟨g, i * 9, none⟩ = some (.int .i64 (hiW (nthE l i).x))
  c1 : ∀ i, i < l.length → w.cell? ⟨g, i * 9 + 1, none⟩ = some (.int .u64 (loW (nthE l i).x))
  c2 : ∀ i, i < l.length → w.cell? ⟨g, i * 9 + 2, none⟩ = some (.int .i64 (hiW (nthE l i).y))
  c3 : ∀ i, i < l.length → w.cell? ⟨g, i * 9 + 3, none⟩ = some (.int .u64 (loW (nthE l i).y))
  c4 : ∀ i, i < l.length → w.cell? ⟨g, i * 9 + 4, none⟩ = some (.int .i64 (hiW (nthE l i).u))
  c5 : ∀ i, i < l.length → w.cell? ⟨g, i * 9 + 5, none⟩ = some (.int .u64 (loW (nthE l i).u))
  c6 : ∀ i, i < l.length → w.cell? ⟨g, i * 9 + 6, none⟩ = some (.int .i64 (hiW (nthE l i).v))
  c7 : ∀ i, i < l.length → w.cell? ⟨g, i * 9 + 7, none⟩ = some (.int .u64 (loW (nthE l i).v))
  c8 : ∀ i, i < l.length → w.cell? ⟨g, i * 9 + 8, none⟩ = some (.int .i64 (nthE l i).t)
theorem ExAt.below {l : List Ex} {g : Nat} {w w' : World} (h : ExAt l g w) (hb : Below w.heap.size w w') : ExAt l g w' :=
  ⟨Nat.lt_of_lt_of_le h.lt hb.size, fun i hi => (hb.cell (p := ⟨g, i * 9, none⟩) h.lt).trans (h.c0 i hi), fun i hi => (hb.cell (p := ⟨g, i * 9 + 1, none⟩) h.lt).trans (h.c1 i hi), fun i hi => (hb.cell (p := ⟨g, i * 9 + 2, none⟩) h.lt).trans (h.c2 i hi), fun i hi => (hb.cell (p := ⟨g, i * 9 + 3, none⟩) h.lt).trans (h.c3 i hi), fun i hi => (hb.cell (p := ⟨g, i * 9 + 4, none⟩) h.lt).trans (h.c4 i hi), fun i hi => (hb.cell (p := ⟨g, i * 9 + 5, none⟩) h.lt).trans (h.c5 i hi), fun i hi => (hb.cell (p := ⟨g, i * 9 + 6, none⟩) h.lt).trans (h.c6 i hi), fun i hi => (hb.cell (p := ⟨g, i * 9 + 7, none⟩) h.lt).trans (h.c7 i hi), fun i hi => (hb.cell (p := ⟨g, i * 9 + 8, none⟩) h.lt).trans (h.c8 i hi)⟩
theorem oe_cases {B : Nat} {w : World} {v : Value} {l : List Ex} (h : OE B w v l) : (v = .slice none 0 0 ∧ l = []) ∨ ∃ g cap, v = .slice (some ⟨g, 0, none⟩) l.length cap ∧ l.length ≤ cap ∧ cap ≤ 9223372036854775807 ∧ ExAt l g w := by
  obtain ⟨h1, h2⟩ := h
  rcases h2 with ⟨rfl, hn⟩ | ⟨g, cap, cur, rfl, hb, hg, hc, hm, hs, ht⟩
  · exact .inl ⟨rfl, List.eq_nil_of_length_eq_zero hn⟩
  · have hlt : g < w.heap.size := (Array.getElem?_eq_some_iff.1 hg).1
    have hget : ∀ j, j < l.length * 9 → w.cell? ⟨g, j, none⟩ = (exC l)[j]? := fun j hj => by
      rw [← ht, List.getElem?_take, if_pos hj]
      unfold World.cell?
      rw [hg]
      simp
    unfold maxLen at hm
    refine .inr ⟨g, cap, rfl, hc, hm, ⟨hlt, fun i hi => ?_, fun i hi => ?_, fun i hi => ?_, fun i hi => ?_, fun i hi => ?_, fun i hi => ?_, fun i hi => ?_, fun i hi => ?_, fun i hi => ?_⟩⟩
    · rw [hget _ (by omega), nthE_eq hi]; exact (exC_get l i hi).1
    · rw [hget _ (by omega), nthE_eq hi]; exact (exC_get l i hi).2.1
    · rw [hget _ (by omega), nthE_eq hi]; exact (exC_get l i hi).2.2.1
    · rw [hget _ (by omega), nthE_eq hi]; exact (exC_get l i hi).2.2.2.1
    · rw [hget _ (by omega), nthE_eq hi]; exact (exC_get l i hi).2.2.2.2.1
    · rw [hget _ (by omega), nthE_eq hi]; exact (exC_get l i hi).2.2.2.2.2.1
    · rw [hget _ (by omega), nthE_eq hi]; exact (exC_get l i hi).2.2.2.2.2.2.1
    · rw [hget _ (by omega), nthE_eq hi]; exact (exC_get l i hi).2.2.2.2.2.2.2.1
    · rw [hget _ (by omega), nthE_eq hi]; exact (exC_get l i hi).2.2.2.2.2.2.2.2
theorem oe_form {B : Nat} {w : World} {v : Value} {l : List Ex} (h : OE B w v l) : ∃ p cap, v = .slice p l.length cap := by
  rcases oe_cases h with ⟨rfl, rfl⟩ | ⟨g, cap, rfl, _⟩
  · exact ⟨none, 0, rfl⟩
  · exact ⟨_, _, rfl⟩
theorem oe_at {B : Nat} {w : World} {p : Option Addr} {cap : Nat} {l : List Ex} (h : OE B w (.slice p l.length cap) l) {k : Nat} (q : k < l.length) : ∃ g, p = some ⟨g, 0, none⟩ ∧ l.length ≤ cap ∧ cap ≤ 9223372036854775807 ∧ ExAt l g w := by
  rcases oe_cases h with ⟨_, rfl⟩ | ⟨g, cap', e, h2, h3, h4⟩
  · exact absurd q (by simp)
  · injection e with e1 e2 e3
    subst e3
    exact ⟨g, e1, h2, h3, h4⟩
theorem OE.below {B : Nat} {w w' : World} {v : Value} {l : List Ex} (h : OE B w v l) (hb : Below w.heap.size w w') : OE B w' v l := by
  refine World.ownsRow.kept h (grown_of_below hb) ?_
  cases v.ownBlock <;> simp
theorem max_snoc (f : Int → Int) (zs : List Int) (z : Int) : maxF f (zs ++ [z]) = max (maxF f zs) (f z) := by
  induction zs with
  | nil => simp only [List.nil_append, maxF]; omega
  | cons a r ih => simp only [List.cons_append, maxF, ih]; omega
end Go.Proofs.Ytplgdlooglnpmaa
