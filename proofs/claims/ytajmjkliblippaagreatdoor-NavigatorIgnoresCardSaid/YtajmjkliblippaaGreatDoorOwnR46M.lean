/-
  Slices of reports that a call has built; that reports which amount to no measurement change nothing.
-/
import Derived.Test.YtajmjkliblippaaGreatDoorM67
import Derived.Test.YtajmjkliblippaaGreatDoorSafe46M
import Derived.Laws.OwnMore
namespace Go.Proofs.YtajmjkliblippaaGreatDoor
set_option linter.unusedVariables false
open Go.RowKit

/-- the reports that count -/
def keepT (tk cx cy x y : Int) (r : Rp) : Bool := decide (r.t = tk) && decide ((rowsN r cx cy x y).2 = 0)
theorem rowsT_keep (tk cx cy x y : Int) : ∀ L : List Rp, rowsT tk cx cy x y (L.filter (keepT tk cx cy x y)) = rowsT tk cx cy x y L
  | [] => rfl
  | r :: L => by
    have ih := rowsT_keep tk cx cy x y L
    rw [List.filter_cons]
    unfold rowsT at *
    by_cases h : keepT tk cx cy x y r = true
    · rw [if_pos h, List.flatMap_cons, List.flatMap_cons, ih]
    · rw [if_neg h, List.flatMap_cons, ih]
      unfold keepT at h
      simp only [Bool.and_eq_true, decide_eq_true_eq] at h
      have : rowT tk cx cy x y r = [] := by
        by_cases h1 : r.t = tk
        · exact rowT_bad fun h2 => h ⟨h1, h2⟩
        · exact rowT_other h1
      rw [this, List.nil_append]
def rpC (l : List Rp) : List Value := l.flatMap fun m => [Value.int .i64 m.s, Value.int .u8 m.k, Value.int .i64 m.x, Value.int .i64 m.y, Value.int .i64 m.v, Value.int .i64 m.b, Value.int .i64 m.wt, Value.int .i64 m.t]
theorem rpC_append (l k : List Rp) : rpC (l ++ k) = rpC l ++ rpC k := by unfold rpC; rw [List.flatMap_append]
theorem rpC_len (l : List Rp) : (rpC l).length = l.length * 8 := by
  unfold rpC
  induction l with
  | nil => rfl
  | cons p r ih => simp only [List.flatMap_cons, List.length_append, List.length_cons, List.length_nil, ih]; omega
theorem rpC_get : ∀ (l : List Rp) (i : Nat) (h : i < l.length), (rpC l)[i * 8]? = some (.int .i64 l[i].s) ∧ (rpC l)[i * 8 + 1]? = some (.int .u8 l[i].k) ∧ (rpC l)[i * 8 + 2]? = some (.int .i64 l[i].x) ∧ (rpC l)[i * 8 + 3]? = some (.int .i64 l[i].y) ∧ (rpC l)[i * 8 + 4]? = some (.int .i64 l[i].v) ∧ (rpC l)[i * 8 + 5]? = some (.int .i64 l[i].b) ∧ (rpC l)[i * 8 + 6]? = some (.int .i64 l[i].wt) ∧ (rpC l)[i * 8 + 7]? = some (.int .i64 l[i].t)
  | [], i, h => absurd h (by simp)
  | p :: l, 0, h => ⟨rfl, rfl, rfl, rfl, rfl, rfl, rfl, rfl⟩
  | p :: l, i + 1, h => by
    obtain ⟨a0, a1, a2, a3, a4, a5, a6, a7⟩ := rpC_get l i (by simpa using h)
    unfold rpC at *
    rw [List.flatMap_cons, show (i + 1) * 8 = i * 8 + 8 by omega]
    exact ⟨a0, a1, a2, a3, a4, a5, a6, a7⟩
/-- a slice of the call's own that holds these reports -/
def OR (B : Nat) (w : World) (v : Value) (l : List Rp) : Prop := w.ownsRow B 49 8 v l.length (rpC l)
theorem infoRep : (Tryz.prog.info? 49).map (fun i => (i.zero, i.size, i.bytes)) = some (some (.agg #[.int .i64 0, .int .u8 0, .int .i64 0, .int .i64 0, .int .i64 0, .int .i64 0, .int .i64 0, .int .i64 0]), 8, 64) := by kernel_rfl
theorem wpList_or {ops : Array Oper} {rest : List Oper} {o : Oper} {a : Act} {Q : Exit → Act → World → Prop} (hgd : o.guard = none) (s x : Operand)
    (ho : o.op = .call { callee := .builtin .append, args := #[s, x], argTypes := #[34, 34] })
    (B : Nat) (v : Value) (l : List Rp) (hs : a.eval s = v) (w0 : World) (h : OR B w0 v l) (T : TypeId) (p : Rp) (c : Nat)
    (hx : a.eval x = .slice (some ⟨w0.heap.size, 0, none⟩) 1 c) (hl : l.length ≤ 100000) (hB : B ≤ w0.heap.size)
    (H : ∀ v' w', OR B w' v' (l ++ [p]) → (w0.alloc (.cells #[.int .i64 p.s, .int .u8 p.k, .int .i64 p.x, .int .i64 p.y, .int .i64 p.v, .int .i64 p.b, .int .i64 p.wt, .int .i64 p.t] T)).grownBy w' v.ownBlock → wpList Tryz.prog ops Q rest (a.put o.dst v') w') :
    wpList Tryz.prog ops Q (o :: rest) a (w0.alloc (.cells #[.int .i64 p.s, .int .u8 p.k, .int .i64 p.x, .int .i64 p.y, .int .i64 p.v, .int .i64 p.b, .int .i64 p.wt, .int .i64 p.t] T)) := by
  obtain ⟨i0, hi, hz0, hz1, hz2⟩ := info_parts infoRep
  refine wpList_append_own_at _ hgd s x 34 ho B 49 i0 (.agg #[.int .i64 0, .int .u8 0, .int .i64 0, .int .i64 0, .int .i64 0, .int .i64 0, .int .i64 0, .int .i64 0]) 8 64 Tryz.underlying34 hi hz0 hz1 hz2 rfl (by decide) v l.length (rpC l) hs (World.ownsRow.alloc h _) ⟨w0.heap.size, 0, none⟩ 1 c (rpC [p]) hx (by rw [rpC_len]; rfl) ?_ ?_ (by unfold maxLen; omega) (by omega) (by simp; omega) ?_
  · intro j u hu
    have hadd : (⟨w0.heap.size, 0, none⟩ : Addr).add j = ⟨w0.heap.size, j, none⟩ := by unfold Addr.add; split <;> simp_all
    rw [hadd, World.cell?_alloc_at _ _ _ _ (by rfl)]
    unfold rpC at hu
    simpa using hu
  · intro u hu
    unfold rpC at hu
    simp only [List.flatMap_cons, List.flatMap_nil, List.append_nil, List.mem_cons, List.not_mem_nil, or_false] at hu
    rcases hu with rfl | rfl | rfl | rfl | rfl | rfl | rfl | rfl <;> rfl
  · intro v' w' ho' hg _ hat
    exact H v' w' (by unfold OR; rw [List.length_append, rpC_append]; exact ho') hg
theorem nthR_eq {l : List Rp} {i : Nat} (hi : i < l.length) : nthR l i = l[i] := by
  unfold nthR
  rw [List.getD_eq_getElem?_getD, List.getElem?_eq_getElem hi]
  rfl
theorem OR.rg {B : Nat} {w : World} {v : Value} {l : List Rp} (h : OR B w v l) : RlG l v w := by
  obtain ⟨h1, h2⟩ := h
  rcases h2 with ⟨rfl, hn⟩ | ⟨g, cap, cur, rfl, hb, hg, hc, hm, hs, ht⟩
  · obtain rfl : l = [] := List.eq_nil_of_length_eq_zero hn
    exact rg_nil w
  · have hlt : g < w.heap.size := (Array.getElem?_eq_some_iff.1 hg).1
    have hget : ∀ j, j < l.length * 8 → w.cell? ⟨g, j, none⟩ = (rpC l)[j]? := fun j hj => by
      rw [← ht, List.getElem?_take, if_pos hj]
      unfold World.cell?
      rw [hg]
      simp
    unfold maxLen at hm
    refine ⟨_, cap, rfl, ⟨hc, hm⟩, fun k hk => ⟨g, 0, rfl, ⟨hlt, ?_, ?_, ?_, ?_, ?_, ?_, ?_, ?_⟩⟩⟩
    all_goals
      intro i hi
      rw [Nat.zero_add, hget _ (by omega), nthR_eq hi]
    · exact (rpC_get l i hi).1
    · exact (rpC_get l i hi).2.1
    · exact (rpC_get l i hi).2.2.1
    · exact (rpC_get l i hi).2.2.2.1
    · exact (rpC_get l i hi).2.2.2.2.1
    · exact (rpC_get l i hi).2.2.2.2.2.1
    · exact (rpC_get l i hi).2.2.2.2.2.2.1
    · exact (rpC_get l i hi).2.2.2.2.2.2.2
theorem rp_same {l : List Rp} {b o : Nat} {w w' : World} (h : RpAt l b o w) (hk : w'.heap[b]? = w.heap[b]?) (hs : w.heap.size ≤ w'.heap.size) : RpAt l b o w' := by
  have e : ∀ x, w'.cell? ⟨b, x, none⟩ = w.cell? ⟨b, x, none⟩ := fun x => by unfold World.cell?; rw [hk]
  exact ⟨Nat.lt_of_lt_of_le h.lt hs, fun i hi => (e _).trans (h.c0 i hi), fun i hi => (e _).trans (h.c1 i hi), fun i hi => (e _).trans (h.c2 i hi), fun i hi => (e _).trans (h.c3 i hi), fun i hi => (e _).trans (h.c4 i hi), fun i hi => (e _).trans (h.c5 i hi), fun i hi => (e _).trans (h.c6 i hi), fun i hi => (e _).trans (h.c7 i hi)⟩
theorem or_set {B : Nat} {w : World} {v : Value} {l : List Rp} (h : OR B w v l) {b j : Nat} (hb : b < B) (u : Value) : RlG l v (w.setCell ⟨b, j, none⟩ u) := by
  have r := h.rg
  obtain ⟨h1, h2⟩ := h
  rcases h2 with ⟨rfl, hn⟩ | ⟨g, cap, cur, rfl, hg, _⟩
  · obtain rfl : l = [] := List.eq_nil_of_length_eq_zero hn
    exact rg_nil _
  · obtain ⟨p, cap', e, hc, ra⟩ := r
    injection e with e1 e2 e3
    subst e1 e3
    refine ⟨_, _, rfl, hc, fun k hk => ?_⟩
    obtain ⟨b', o', e, q⟩ := ra k hk
    injection e with e
    injection e with e1 e2
    subst e1 e2
    exact ⟨_, _, rfl, rp_same q (Below.heap_setCell _ _ _ _ (show g ≠ b by omega)) (by simp [World.setCell])⟩
theorem OR.below {B : Nat} {w w' : World} {v : Value} {l : List Rp} (h : OR B w v l) (hb : Below w.heap.size w w') : OR B w' v l := by
  refine World.ownsRow.kept h (grown_of_below hb) ?_
  cases v.ownBlock <;> simp
theorem filt_succ {p : Rp → Bool} {l : List Rp} {k : Nat} (h : k < l.length) : (l.take (k + 1)).filter p = if p (nthR l k) = true then (l.take k).filter p ++ [nthR l k] else (l.take k).filter p := by
  rw [List.take_succ_eq_append_getElem h, List.filter_append, nthR_eq h]
  by_cases q : p l[k] = true
  · rw [if_pos q]; simp [q]
  · rw [if_neg q]; simp [q]
theorem kd_filt {p : Rp → Bool} {L : List Rp} (h : ∀ i, i < L.length → 0 ≤ (nthR L i).k ∧ (nthR L i).k ≤ 255) : ∀ i, i < (L.filter p).length → 0 ≤ (nthR (L.filter p) i).k ∧ (nthR (L.filter p) i).k ≤ 255 := fun i hi => by
  rw [nthR_eq hi]
  obtain ⟨j, hj, e⟩ := List.getElem_of_mem (List.mem_filter.1 (List.getElem_mem hi)).1
  have := h j hj
  rw [nthR_eq hj, e] at this
  exact this
theorem stp_keep (b : Bx4) (t m tick ve vn dr : Int) (T : List Rp) (c : Bx4) (hc : movB b ve vn dr (tick - t) = c) : stpC b t m tick ve vn dr (T.filter (keepT tick c.cx c.cy c.x c.y)) = stpC b t m tick ve vn dr T := by
  unfold stpC
  rw [hc, rowsT_keep]
theorem stp_le {b : Bx4} {t m tick ve vn dr rq : Int} {n n' : Nat} (h : stpE2 b t m tick ve vn dr rq n = 0) (hn : n' ≤ n) : stpE2 b t m tick ve vn dr rq n' = 0 := by
  obtain ⟨h1, h2, h3, h4, h5⟩ := stp_ok2 h
  unfold stpE2
  rw [if_neg (by omega), if_neg (by omega), if_neg (by omega), if_neg (by omega)]
  exact h5
end Go.Proofs.YtajmjkliblippaaGreatDoor
