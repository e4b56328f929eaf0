/-
  Walks and laws of the layers below, gathered from several texts.
-/
import Derived.Maps.AppendAt
import Derived.OwnWalk
import Derived.OneCell
import Derived.Deep.RegionHeld
import Derived.Test.YtidelghgjibndaaGreatTD5
namespace Go.Proofs.YtidelghgjibndaaGreat
set_option linter.unusedVariables false
open Go.RowKit
/-- an exact solution with its noise -/
structure Ex where
  x : Int
  y : Int
  u : Int
  v : Int
  t : Int
def ex0 : Ex := ⟨0, 0, 0, 0, 0⟩
def nthE (l : List Ex) (i : Nat) : Ex := l.getD i ex0
theorem nthE_eq {l : List Ex} {i : Nat} (h : i < l.length) : nthE l i = l[i] := by
  unfold nthE
  rw [List.getD_eq_getElem?_getD, List.getElem?_eq_getElem h]
  rfl
def exC (l : List Ex) : List Value := l.flatMap fun m => [Value.int .i64 (hiW m.x), Value.int .u64 (loW m.x), Value.int .i64 (hiW m.y), Value.int .u64 (loW m.y), Value.int .i64 (hiW m.u), Value.int .u64 (loW m.u), Value.int .i64 (hiW m.v), Value.int .u64 (loW m.v), Value.int .i64 m.t]
theorem exC_append (l k : List Ex) : exC (l ++ k) = exC l ++ exC k := by unfold exC; rw [List.flatMap_append]
theorem exC_len (l : List Ex) : (exC l).length = l.length * 9 := by
  induction l with
  | nil => rfl
  | cons m r ih =>
    unfold exC at *
    rw [List.flatMap_cons, List.length_append, ih]
    simp
    omega
theorem exC_get : ∀ (l : List Ex) (i : Nat) (h : i < l.length), (exC l)[i * 9]? = some (.int .i64 (hiW l[i].x)) ∧ (exC l)[i * 9 + 1]? = some (.int .u64 (loW l[i].x)) ∧ (exC l)[i * 9 + 2]? = some (.int .i64 (hiW l[i].y)) ∧ (exC l)[i * 9 + 3]? = some (.int .u64 (loW l[i].y)) ∧ (exC l)[i * 9 + 4]? = some (.int .i64 (hiW l[i].u)) ∧ (exC l)[i * 9 + 5]? = some (.int .u64 (loW l[i].u)) ∧ (exC l)[i * 9 + 6]? = some (.int .i64 (hiW l[i].v)) ∧ (exC l)[i * 9 + 7]? = some (.int .u64 (loW l[i].v)) ∧ (exC l)[i * 9 + 8]? = some (.int .i64 l[i].t)
  | [], i, h => absurd h (by simp)
  | p :: l, 0, h => ⟨rfl, rfl, rfl, rfl, rfl, rfl, rfl, rfl, rfl⟩
  | p :: l, i + 1, h => by
    obtain ⟨a, b, c, d, e, f, g, h, k⟩ := exC_get l i (by simpa using h)
    unfold exC at *
    rw [List.flatMap_cons, show (i + 1) * 9 = i * 9 + 9 by omega]
    exact ⟨a, b, c, d, e, f, g, h, k⟩
/-- a slice of the call's own that holds these solutions -/
def OE (B : Nat) (w : World) (v : Value) (l : List Ex) : Prop := w.ownsRow B 88 9 v l.length (exC l)
theorem infoEx : (Tryz.prog.info? 88).map (fun i => (i.zero, i.size, i.bytes)) = some (some (.agg #[.int .i64 0, .int .u64 0, .int .i64 0, .int .u64 0, .int .i64 0, .int .u64 0, .int .i64 0, .int .u64 0, .int .i64 0]), 9, 72) := by kernel_rfl
theorem wpList_oe {ops : Array Oper} {rest : List Oper} {o : Oper} {a : Act} {Q : Exit → Act → World → Prop} (hgd : o.guard = none) (s x : Operand)
    (ho : o.op = .call { callee := .builtin .append, args := #[s, x], argTypes := #[84, 84] })
    (B : Nat) (v : Value) (l : List Ex) (hs : a.eval s = v) (w0 : World) (h : OE B w0 v l) (T : TypeId) (p : Ex) (c : Nat)
    (hx : a.eval x = .slice (some ⟨w0.heap.size, 0, none⟩) 1 c) (hl : l.length ≤ 100000) (hB : B ≤ w0.heap.size)
    (H : ∀ v' w', OE B w' v' (l ++ [p]) → (w0.alloc (.cells #[.int .i64 (hiW p.x), .int .u64 (loW p.x), .int .i64 (hiW p.y), .int .u64 (loW p.y), .int .i64 (hiW p.u), .int .u64 (loW p.u), .int .i64 (hiW p.v), .int .u64 (loW p.v), .int .i64 p.t] T)).grownBy w' v.ownBlock → (v'.ownBlock = v.ownBlock ∨ v'.ownBlock = some (w0.heap.size + 1)) → wpList Tryz.prog ops Q rest (a.put o.dst v') w') :
    wpList Tryz.prog ops Q (o :: rest) a (w0.alloc (.cells #[.int .i64 (hiW p.x), .int .u64 (loW p.x), .int .i64 (hiW p.y), .int .u64 (loW p.y), .int .i64 (hiW p.u), .int .u64 (loW p.u), .int .i64 (hiW p.v), .int .u64 (loW p.v), .int .i64 p.t] T)) := by
  obtain ⟨i0, hi, hz0, hz1, hz2⟩ := info_parts infoEx
  refine wpList_append_own_at _ hgd s x 84 ho B 88 i0 (.agg #[.int .i64 0, .int .u64 0, .int .i64 0, .int .u64 0, .int .i64 0, .int .u64 0, .int .i64 0, .int .u64 0, .int .i64 0]) 9 72 Tryz.underlying84 hi hz0 hz1 hz2 rfl (by decide) v l.length (exC l) hs (World.ownsRow.alloc h _) ⟨w0.heap.size, 0, none⟩ 1 c (exC [p]) hx (by rw [exC_len]; rfl) ?_ ?_ (by unfold maxLen; omega) (by omega) (by simp; omega) ?_
  · intro j u hu
    have hadd : (⟨w0.heap.size, 0, none⟩ : Addr).add j = ⟨w0.heap.size, j, none⟩ := by unfold Addr.add; split <;> simp_all
    rw [hadd, World.cell?_alloc_at _ _ _ _ (by rfl)]
    unfold exC at hu
    simpa using hu
  · intro u hu
    unfold exC at hu
    simp only [List.flatMap_cons, List.flatMap_nil, List.append_nil, List.mem_cons, List.not_mem_nil, or_false] at hu
    rcases hu with rfl | rfl | rfl | rfl | rfl | rfl | rfl | rfl | rfl <;> rfl
  · intro v' w' ho' hg _ hat
    refine H v' w' (by unfold OE; rw [List.length_append, exC_append]; exact ho') hg ?_
    simpa using hat
structure ExAt (l : List Ex) (g : Nat) (w : World) : Prop where
  lt : g < w.heap.size
  c0 : ∀ i, i < l.length → w.cell? ⟨g, i * 9, none⟩ = some (.int .i64 (hiW (nthE l i).x))
  c1 : ∀ i, i < l.length → w.cell? ⟨g, i * 9 + 1, none⟩ = some (.int .u64 (loW (nthE l i).x))
  c2 : ∀ i, i < l.length → w.cell? ⟨g, i * 9 + 2, none⟩ = some (.int .i64 (hiW (nthE l i).y))
  c3 : ∀ i, i < l.length → w.cell? ⟨g, i * 9 + 3, none⟩ = some (.int .u64 (loW (nthE l i).y))
  c4 : ∀ i, i < l.length → w.cell? ⟨g, i * 9 + 4, none⟩ = some (.int .i64 (hiW (nthE l i).u))
  c5 : ∀ i, i < l.length → w.cell? ⟨g, i * 9 + 5, none⟩ = some (.int .u64 (loW (nthE l i).u))
  c6 : ∀ i, i < l.length → w.cell? ⟨g, i * 9 + 6, none⟩ = some (.int .i64 (hiW (nthE l i).v))
  c7 : ∀ i, i < l.length → w.cell? ⟨g, i * 9 + 7, none⟩ = some (.int .u64 (loW (nthE l i).v))
  c8 : ∀ i, i < l.length → w.cell? ⟨g, i * 9 + 8, none⟩ = some (.int .i64 (nthE l i).t)
theorem ExAt.below {l : List Ex} {g : Nat} {w w' : World} (h : ExAt l g w) (hb : Below w.heap.size w w') : ExAt l g w' :=
  ⟨Nat.lt_of_lt_of_le h.lt hb.size, fun i hi => (hb.cell (p := ⟨g, i * 9, none⟩) h.lt).trans (h.c0 i hi), fun i hi => (hb.cell (p := ⟨g, i * 9 + 1, none⟩) h.lt).trans (h.c1 i hi), fun i hi => (hb.cell (p := ⟨g, i * 9 + 2, none⟩) h.lt).trans (h.c2 i hi), fun i hi => (hb.cell (p := ⟨g, i * 9 + 3, none⟩) h.lt).trans (h.c3 i hi), fun i hi => (hb.cell (p := ⟨g, i * 9 + 4, none⟩) h.lt).trans (h.c4 i hi), fun i hi => (hb.cell (p := ⟨g, i * 9 + 5, none⟩) h.lt).trans (h.c5 i hi), fun i hi => (hb.cell (p := ⟨g, i * 9 + 6, none⟩) h.lt).trans (h.c6 i hi), fun i hi => (hb.cell (p := ⟨g, i * 9 + 7, none⟩) h.lt).trans (h.c7 i hi), fun i hi => (hb.cell (p := ⟨g, i * 9 + 8, none⟩) h.lt).trans (h.c8 i hi)⟩
theorem oe_cases {B : Nat} {w : World} {v : Value} {l : List Ex} (h : OE B w v l) : (v = .slice none 0 0 ∧ l = []) ∨ ∃ g cap, v = .slice (some ⟨g, 0, none⟩) l.length cap ∧ l.length ≤ cap ∧ cap ≤ 9223372036854775807 ∧ ExAt l g w := by
  obtain ⟨h1, h2⟩ := h
  rcases h2 with ⟨rfl, hn⟩ | ⟨g, cap, cur, rfl, hb, hg, hc, hm, hs, ht⟩
  · exact .inl ⟨rfl, List.eq_nil_of_length_eq_zero hn⟩
  · have hlt : g < w.heap.size := (Array.getElem?_eq_some_iff.1 hg).1
    have hget : ∀ j, j < l.length * 9 → w.cell? ⟨g, j, none⟩ = (exC l)[j]? := fun j hj => by
      rw [← ht, List.getElem?_take, if_pos hj]
      unfold World.cell?
      rw [hg]
      simp
    unfold maxLen at hm
    refine .inr ⟨g, cap, rfl, hc, hm, ⟨hlt, fun i hi => ?_, fun i hi => ?_, fun i hi => ?_, fun i hi => ?_, fun i hi => ?_, fun i hi => ?_, fun i hi => ?_, fun i hi => ?_, fun i hi => ?_⟩⟩
    · rw [hget _ (by omega), nthE_eq hi]; exact (exC_get l i hi).1
    · rw [hget _ (by omega), nthE_eq hi]; exact (exC_get l i hi).2.1
    · rw [hget _ (by omega), nthE_eq hi]; exact (exC_get l i hi).2.2.1
    · rw [hget _ (by omega), nthE_eq hi]; exact (exC_get l i hi).2.2.2.1
    · rw [hget _ (by omega), nthE_eq hi]; exact (exC_get l i hi).2.2.2.2.1
    · rw [hget _ (by omega), nthE_eq hi]; exact (exC_get l i hi).2.2.2.2.2.1
    · rw [hget _ (by omega), nthE_eq hi]; exact (exC_get l i hi).2.2.2.2.2.2.1
    · rw [hget _ (by omega), nthE_eq hi]; exact (exC_get l i hi).2.2.2.2.2.2.2.1
    · rw [hget _ (by omega), nthE_eq hi]; exact (exC_get l i hi).2.2.2.2.2.2.2.2
theorem oe_form {B : Nat} {w : World} {v : Value} {l : List Ex} (h : OE B w v l) : ∃ p cap, v = .slice p l.length cap := by
  rcases oe_cases h with ⟨rfl, rfl⟩ | ⟨g, cap, rfl, _⟩
  · exact ⟨none, 0, rfl⟩
  · exact ⟨_, _, rfl⟩
theorem oe_at {B : Nat} {w : World} {p : Option Addr} {cap : Nat} {l : List Ex} (h : OE B w (.slice p l.length cap) l) {k : Nat} (q : k < l.length) : ∃ g, p = some ⟨g, 0, none⟩ ∧ l.length ≤ cap ∧ cap ≤ 9223372036854775807 ∧ ExAt l g w := by
  rcases oe_cases h with ⟨_, rfl⟩ | ⟨g, cap', e, h2, h3, h4⟩
  · exact absurd q (by simp)
  · injection e with e1 e2 e3
    subst e3
    exact ⟨g, e1, h2, h3, h4⟩
theorem OE.below {B : Nat} {w w' : World} {v : Value} {l : List Ex} (h : OE B w v l) (hb : Below w.heap.size w w') : OE B w' v l := by
  refine World.ownsRow.kept h (grown_of_below hb) ?_
  cases v.ownBlock <;> simp
theorem max_snoc (f : Int → Int) (zs : List Int) (z : Int) : maxF f (zs ++ [z]) = max (maxF f zs) (f z) := by
  induction zs with
  | nil => simp only [List.nil_append, maxF]; omega
  | cons a r ih => simp only [List.cons_append, maxF, ih]; omega
end Go.Proofs.YtidelghgjibndaaGreat
namespace Go.Proofs.YtidelghgjibndaaGreat
set_option linter.unusedVariables false
open Go.RowKit
def exW (l : List Ms) (k : Int) : Ex := ⟨solX (woL l k), solY (woL l k), noiX (woL l k), noiY (woL l k), detN (woL l k)⟩
def rowsL (l : List Ms) (ks : List Int) : List Ex := ks.map (exW l)
theorem rows_len (l : List Ms) (ks : List Int) : (rowsL l ks).length = ks.length := List.length_map ..
theorem take_int {ks : List Int} {k : Nat} (h : k < ks.length) : ks.take (k + 1) = ks.take k ++ [ks.getD k 0] := by
  rw [List.take_add_one, List.getD_eq_getElem?_getD, List.getElem?_eq_getElem h]
  rfl
theorem rows_succ (l : List Ms) {ks : List Int} {k : Nat} (h : k < ks.length) : rowsL l (ks.take (k + 1)) = rowsL l (ks.take k) ++ [exW l (ks.getD k 0)] := by
  unfold rowsL
  rw [take_int h, List.map_append]
  rfl
theorem rows_nth (l : List Ms) {ks : List Int} {k : Nat} (h : k < ks.length) : nthE (rowsL l ks) k = exW l (ks.getD k 0) := by
  rw [nthE_eq (by rw [rows_len]; exact h)]
  unfold rowsL
  rw [List.getElem_map, List.getD_eq_getElem?_getD, List.getElem?_eq_getElem h]
  rfl
/-- the parts that Level has gathered -/
def LvR1 (l : List Ms) (K : List Int) (W : World) (u s : Value) (wr : World) : Prop := ∃ k : Nat, s = .int .i64 k ∧ k ≤ K.length ∧ Hid (Below W.heap.size W wr) ∧ Hid (OE W.heap.size wr u (rowsL l (K.take k))) ∧ Hid (∀ i, i < k → detN (woL l (K.getD i 0)) ≠ 0)
def mxF (l : List Ms) (cx cy : Int) (k : Int) : Int := (reachF cx cy (woL l k)).1.1
def myF (l : List Ms) (cx cy : Int) (k : Int) : Int := (reachF cx cy (woL l k)).1.2
def LvR2 (l : List Ms) (K : List Int) (cx cy : Int) (bb : Nat) (W : World) (s : Value) (wr : World) : Prop := ∃ k : Nat, s = .int .i64 k ∧ k ≤ K.length ∧ Hid (Below bb W wr) ∧ Hid (Blk [.int .i64 cx, .int .i64 cy, .int .i64 (maxF (mxF l cx cy) (K.take k)), .int .i64 (maxF (myF l cx cy) (K.take k))] bb wr) ∧ Hid (∀ i, i < k → (reachF cx cy (woL l (K.getD i 0))).2 = 0)
theorem chk_wo {l : List Ms} (h : chkL l = 0) (k : Int) : chkL (woL l k) = 0 := by
  have o := (okL_of h).wo k
  exact chkL_of o.len o.ok
theorem getD_mem {K : List Int} {i : Nat} (h : i < K.length) : K.getD i 0 ∈ K := by
  rw [List.getD_eq_getElem?_getD, List.getElem?_eq_getElem h]
  exact List.getElem_mem h
theorem mem_getD {K : List Int} {x : Int} (h : x ∈ K) : ∃ i, i < K.length ∧ K.getD i 0 = x := by
  obtain ⟨i, hi, e⟩ := List.getElem_of_mem h
  exact ⟨i, hi, by rw [List.getD_eq_getElem?_getD, List.getElem?_eq_getElem hi]; exact e⟩
theorem blk_keep {vs : List Value} {b B : Nat} {W w' : World} (h : Blk vs b W) (hb : Below B W w') (hB : b < B) : Blk vs b w' :=
  ⟨Nat.lt_of_lt_of_le h.lt hb.size, fun i v e => (hb.cell (p := ⟨b, i, none⟩) hB).trans (h.c i v e), fun i v e => (hb.frozen (p := ⟨b, i, none⟩) hB).trans (h.f i v e)⟩
theorem ex_keep {l : List Ex} {g B : Nat} {w w' : World} (h : ExAt l g w) (hb : Below B w w') (hB : g < B) : ExAt l g w' :=
  ⟨Nat.lt_of_lt_of_le h.lt hb.size, fun i hi => (hb.cell (p := ⟨g, i * 9, none⟩) hB).trans (h.c0 i hi), fun i hi => (hb.cell (p := ⟨g, i * 9 + 1, none⟩) hB).trans (h.c1 i hi), fun i hi => (hb.cell (p := ⟨g, i * 9 + 2, none⟩) hB).trans (h.c2 i hi), fun i hi => (hb.cell (p := ⟨g, i * 9 + 3, none⟩) hB).trans (h.c3 i hi), fun i hi => (hb.cell (p := ⟨g, i * 9 + 4, none⟩) hB).trans (h.c4 i hi), fun i hi => (hb.cell (p := ⟨g, i * 9 + 5, none⟩) hB).trans (h.c5 i hi), fun i hi => (hb.cell (p := ⟨g, i * 9 + 6, none⟩) hB).trans (h.c6 i hi), fun i hi => (hb.cell (p := ⟨g, i * 9 + 7, none⟩) hB).trans (h.c7 i hi), fun i hi => (hb.cell (p := ⟨g, i * 9 + 8, none⟩) hB).trans (h.c8 i hi)⟩
theorem lev_rank {l : List Ms} (hs : solE l = 0) {k : Int} (h : k ∈ srcL l) (hd : detN (woL l k) = 0) : levF l = (box0, 14) := by
  unfold levF
  rw [if_pos hs, if_pos]
  exact List.any_eq_true.2 ⟨k, h, by unfold rankB; exact decide_eq_true hd⟩
theorem lev_wide {l : List Ms} (hs : solE l = 0) (hr : ∀ i, i < (srcL l).length → detN (woL l ((srcL l).getD i 0)) ≠ 0) {k : Int} (h : k ∈ srcL l) (hw : (reachF (cenX l) (cenY l) (woL l k)).2 ≠ 0) : levF l = (box0, 2) := by
  unfold levF
  rw [if_pos hs, if_neg, if_pos]
  · exact List.any_eq_true.2 ⟨k, h, by unfold wideB; exact decide_eq_true hw⟩
  · intro q
    obtain ⟨z, hz, e⟩ := List.any_eq_true.1 q
    obtain ⟨i, hi, rfl⟩ := mem_getD hz
    exact hr i hi (of_decide_eq_true e)
theorem lev_good {l : List Ms} (hs : solE l = 0) (hr : ∀ i, i < (srcL l).length → detN (woL l ((srcL l).getD i 0)) ≠ 0) (hw : ∀ i, i < (srcL l).length → (reachF (cenX l) (cenY l) (woL l ((srcL l).getD i 0))).2 = 0) :
    levF l = (⟨cenX l, cenY l, maxF (mxF l (cenX l) (cenY l)) (srcL l), maxF (myF l (cenX l) (cenY l)) (srcL l)⟩, 0) := by
  refine lev_val ⟨hs, fun k hk => ?_, fun k hk => ?_⟩
  · obtain ⟨i, hi, rfl⟩ := mem_getD hk
    exact hr i hi
  · obtain ⟨i, hi, rfl⟩ := mem_getD hk
    exact hw i hi
set_option maxHeartbeats 40000000 in
set_option maxRecDepth 100000 in
theorem lev_any (l : List Ms) (v : Value) (w : World) (h : LstAt l v w) :
    Calls Tryz.prog 12 #[v] w fun e w' => e = .returned (.tuple #[boxV (levF l).1, .int .i64 (levF l).2]) ∧ Below w.heap.size w w' := by
  obtain ⟨p, cap, rfl⟩ := lst_form h
  by_cases hs : solE l = 0
  · obtain ⟨hc, hd, hx, hy⟩ := sol_chk hs
    have SO := Lib.hid fun w h => sol_ok l (.slice p l.length cap) w h hs
    have L18 := Lib.hid (show l.length ≤ 18 by have := (okL_of hc).len; omega)
    have SR := Lib.hid fun w h => src_any l (.slice p l.length cap) w h L18.out
    have HC := Lib.hid hc
    have EV1 := Lib.hid fun k (h : k ∈ srcL l) hd => lev_rank hs h hd
    have EV2 := Lib.hid fun hr k (h : k ∈ srcL l) hw => lev_wide hs hr h hw
    have EV3 := Lib.hid fun hr hw => lev_good hs hr hw
    have RE := Lib.hid fun k (hd : detN (woL l k) ≠ 0) w => reachL_any ((okL_of hc).wo k) (det_pos (chk_wo hc k) hd) hx hy w
    have KM := Lib.hid fun k (h : k < (srcL l).length) => getD_mem h
    have KL := Lib.hid (show (srcL l).length ≤ 18 from Nat.le_trans (src_len l) L18.out)
    clear hs hc hd hx hy
    generalize solX l = X at *
    generalize solY l = Y at *
    generalize detN l = T at *
    generalize cenX l = cx at *
    generalize cenY l = cy at *
    obtain ⟨K, hK⟩ : ∃ x, srcL l = x := ⟨_, rfl⟩
    rw [hK] at SR KM EV1 EV2 EV3 KL
    clear hK
    have H0 := Lib.hid h
    have KZ := Lib.hid (Blk.of (vs := #[.int .i64 0, .int .i64 0, .int .i64 0, .int .i64 0]) (t := 26) (w := w) (b := w.heap.size) (by simp))
    have HB := Lib.hid ((Below.refl w.heap.size w).alloc (by simp; try omega) (.cells #[.int .i64 0, .int .i64 0, .int .i64 0, .int .i64 0] 26))
    go_enter Tryz.func12, Tryz.ntmps12
    clear h
    go_wp2_with fail
    generalize w.alloc (.cells #[.int .i64 0, .int .i64 0, .int .i64 0, .int .i64 0] 26) = w0 at *
    refine (SO.out _ (H0.out.below HB.out)).mono ?_
    rintro e1 w1 ⟨rfl, hb1⟩
    replace HB := Lib.hid (HB.out.trans (hb1.mono HB.out.size))
    replace KZ := Lib.hid (KZ.out.below hb1)
    clear hb1
    go_wp2_with fail
    have KS := Lib.hid (Blk.of (vs := #[.int .i64 (hiW X), .int .u64 (loW X), .int .i64 (hiW Y), .int .u64 (loW Y), .int .i64 T, .int .i64 cx, .int .i64 cy]) (t := 81) (w := w1) (b := w1.heap.size) rfl)
    have hb2 : Below w1.heap.size w1 (w1.alloc (.cells #[.int .i64 (hiW X), .int .u64 (loW X), .int .i64 (hiW Y), .int .u64 (loW Y), .int .i64 T, .int .i64 cx, .int .i64 cy] 81)) := (Below.refl _ _).alloc (Nat.le_refl _) _
    have hnS := HB.out.size
    have nzS_Z := KZ.out.lt
    replace HB := Lib.hid (HB.out.trans (hb2.mono HB.out.size))
    replace KZ := Lib.hid (KZ.out.below hb2)
    clear hb2
    generalize w1.alloc (.cells #[.int .i64 (hiW X), .int .u64 (loW X), .int .i64 (hiW Y), .int .u64 (loW Y), .int .i64 T, .int .i64 cx, .int .i64 cy] 81) = w2 at *
    generalize w1.heap.size = bS at *
    have neS_Z : bS ≠ w.heap.size := by omega
    clear nzS_Z
    refine (SR.out _ (H0.out.below HB.out)).mono ?_
    rintro e9 w9 ⟨⟨us, rfl, hoi⟩, hb9⟩
    replace HB := Lib.hid (HB.out.trans (hb9.mono HB.out.size))
    replace KZ := Lib.hid (KZ.out.below hb9)
    replace KS := Lib.hid (KS.out.below hb9)
    clear hb9
    obtain ⟨ps, caps, rfl, IK⟩ : ∃ ps caps, us = .slice ps K.length caps ∧ Hid (∀ k, k < K.length → ∃ g, ps = some ⟨g, 0, none⟩ ∧ K.length ≤ caps ∧ caps ≤ 9223372036854775807 ∧ IntsAt K g w9) := by
      rcases oi_cases hoi with ⟨rfl, e⟩ | ⟨g, cap', rfl, q1, q2, _, q4⟩
      · exact ⟨none, 0, by rw [e]; rfl, Lib.hid fun k hk => absurd hk (by rw [e]; simp)⟩
      · exact ⟨_, cap', rfl, Lib.hid fun k hk => ⟨g, rfl, q1, q2, q4⟩⟩
    clear hoi
    have HL9 := Lib.hid (H0.out.below HB.out)
    have hnS9 := HB.out.size
    go_wp2
    go_loopw [6, 28] (LvR1 l K w9) (fun _ i _ => K.length - (intOf i).toNat)
    case atStart => exact ⟨0, rfl, Nat.zero_le _, Lib.hid (Below.refl _ _), Lib.hid (World.ownsRow_nil _ _ _ _), Lib.hid fun i hi => absurd hi (by omega)⟩
    case round =>
      obtain ⟨k, rfl, hk, HBR, HO, HR⟩ := hrel
      by_cases q : k < K.length
      · replace KZ := Lib.hid (KZ.out.below HBR.out)
        replace KS := Lib.hid (KS.out.below HBR.out)
        replace HB := Lib.hid (HB.out.trans (HBR.out.mono HB.out.size))
        have q' : decide (k < K.length) = true := by simpa using q
        obtain ⟨gk, rfl, hk1, hk2, IA⟩ := IK.out k q
        have ck := (IA.below HBR.out).c k q
        have ckz := (IA.below HBR.out).lt
        clear IA
        have RS := Lib.hid (rows_succ l q)
        have MK := Lib.hid (KM.out k q)
        have RL := Lib.hid (show (rowsL l (K.take k)).length ≤ 100000 by rw [rows_len, List.length_take]; have := KL.out; omega)
        have WO := Lib.hid fun w h => wo_any l (K.getD k 0) (.slice p l.length cap) w h L18.out
        have SV := Lib.hid fun v w h => solve_any (woL l (K.getD k 0)) v w h (chk_wo HC.out _)
        have ER := Lib.hid fun hd => EV1.out _ (KM.out k q) hd
        have EX := Lib.hid (show exW l (K.getD k 0) = ⟨solX (woL l (K.getD k 0)), solY (woL l (K.getD k 0)), noiX (woL l (K.getD k 0)), noiY (woL l (K.getD k 0)), detN (woL l (K.getD k 0))⟩ from rfl)
        have HRD := Lib.hid fun (h : detN (woL l (K.getD k 0)) ≠ 0) i (hi : i < k + 1) => show detN (woL l (K.getD i 0)) ≠ 0 from by rcases Nat.lt_or_ge i k with a | a; exact HR.out i a; rw [show i = k by omega]; exact h
        have OL := Lib.hid (World.ownsRow.lt HO.out)
        have HO2 := Lib.hid (show OE w9.heap.size wr u6 (rowsL l (K.take k)) from HO.out)
        generalize exW l (K.getD k 0) = ex at *
        generalize hkk : K.getD k 0 = kk at *
        clear hkk
        have WE := Lib.hid (rfl : woL l kk = woL l kk)
        generalize woL l kk = lw at *
        clear WE
        go_wp2_with fail
        refine (WO.out _ (HL9.out.below HBR.out)).mono ?_
        rintro e21 w21 ⟨⟨uw, rfl, how⟩, hb21⟩
        have HW := Lib.hid (OM.lst how)
        have HBW := Lib.hid (HBR.out.trans (hb21.mono HBR.out.size))
        have HO3 := Lib.hid (HO2.out.below hb21)
        replace HB := Lib.hid (HB.out.trans (hb21.mono HB.out.size))
        replace KZ := Lib.hid (KZ.out.below hb21)
        replace KS := Lib.hid (KS.out.below hb21)
        clear hb21
        clear how ck ckz
        go_wp2_with fail
        refine (SV.out _ _ HW.out).mono ?_
        rintro e22 w22 ⟨rfl, hb22⟩
        replace HBW := Lib.hid (HBW.out.trans (hb22.mono HBW.out.size))
        replace HO3 := Lib.hid (HO3.out.below hb22)
        replace HB := Lib.hid (HB.out.trans (hb22.mono HB.out.size))
        replace KZ := Lib.hid (KZ.out.below hb22)
        replace KS := Lib.hid (KS.out.below hb22)
        clear hb22
        obtain ⟨x, y, u, v, t⟩ := ex
        have EX1 := EX.out
        injection EX1 with ex1 ex2 ex3 ex4 ex5
        rw [← ex5] at ER HRD
        rw [← ex1, ← ex2, ← ex3, ← ex4, ← ex5]
        clear ex1 ex2 ex3 ex4 ex5
        clear EX
        by_cases hd : t = 0
        · have g : (t == 0) = true := by simpa using hd
          have HV := Lib.hid (ER.out hd)
          clear hd
          have yZ := KZ.out
          have yZ_0 := yZ.c 0 _ rfl
          have yZ_1 := yZ.c 1 _ rfl
          have yZ_2 := yZ.c 2 _ rfl
          have yZ_3 := yZ.c 3 _ rfl
          have yZ_z := yZ.lt
          have yZ_f0 := yZ.f 0 _ rfl
          have yZ_f1 := yZ.f 1 _ rfl
          have yZ_f2 := yZ.f 2 _ rfl
          have yZ_f3 := yZ.f 3 _ rfl
          clear yZ
          go_wp2
          replace KZ := Lib.hid (blk_set (blk_set (blk_set (blk_set KZ.out (j := 0) (by simp) (.int .i64 0)) (j := 1) (by simp) (.int .i64 0)) (j := 2) (by simp) (.int .i64 0)) (j := 3) (by simp) (.int .i64 0))
          replace KS := Lib.hid (blk_other (b := bS) (n := w.heap.size) (j := 3) (blk_other (b := bS) (n := w.heap.size) (j := 2) (blk_other (b := bS) (n := w.heap.size) (j := 1) (blk_other (b := bS) (n := w.heap.size) (j := 0) KS.out (by omega) (.int .i64 0)) (by omega) (.int .i64 0)) (by omega) (.int .i64 0)) (by omega) (.int .i64 0))
          replace HB := Lib.hid ((((HB.out.setCell (p := ⟨w.heap.size, 0, none⟩) (show w.heap.size ≤ w.heap.size by omega) (.int .i64 0)).setCell (p := ⟨w.heap.size, 1, none⟩) (show w.heap.size ≤ w.heap.size by omega) (.int .i64 0)).setCell (p := ⟨w.heap.size, 2, none⟩) (show w.heap.size ≤ w.heap.size by omega) (.int .i64 0)).setCell (p := ⟨w.heap.size, 3, none⟩) (show w.heap.size ≤ w.heap.size by omega) (.int .i64 0))
          clear yZ_0 yZ_1 yZ_2 yZ_3 yZ_z yZ_f0 yZ_f1 yZ_f2 yZ_f3
          generalize (((w22.setCell ⟨w.heap.size, 0, none⟩ (.int .i64 0)).setCell ⟨w.heap.size, 1, none⟩ (.int .i64 0)).setCell ⟨w.heap.size, 2, none⟩ (.int .i64 0)).setCell ⟨w.heap.size, 3, none⟩ (.int .i64 0) = w23 at *
          simp only [List.set] at KZ
          have KE := Lib.hid (Blk.of (vs := #[.int .i64 (hiW x), .int .u64 (loW x), .int .i64 (hiW y), .int .u64 (loW y), .int .i64 (hiW u), .int .u64 (loW u), .int .i64 (hiW v), .int .u64 (loW v), .int .i64 t]) (t := 88) (w := w23) (b := w23.heap.size) rfl)
          have hb24 : Below w23.heap.size w23 (w23.alloc (.cells #[.int .i64 (hiW x), .int .u64 (loW x), .int .i64 (hiW y), .int .u64 (loW y), .int .i64 (hiW u), .int .u64 (loW u), .int .i64 (hiW v), .int .u64 (loW v), .int .i64 t] 88)) := (Below.refl _ _).alloc (Nat.le_refl _) _
          have hnE := HB.out.size
          have nzE_Z := KZ.out.lt
          have nzE_S := KS.out.lt
          replace HB := Lib.hid (HB.out.trans (hb24.mono HB.out.size))
          replace KZ := Lib.hid (KZ.out.below hb24)
          replace KS := Lib.hid (KS.out.below hb24)
          clear hb24
          generalize w23.alloc (.cells #[.int .i64 (hiW x), .int .u64 (loW x), .int .i64 (hiW y), .int .u64 (loW y), .int .i64 (hiW u), .int .u64 (loW u), .int .i64 (hiW v), .int .u64 (loW v), .int .i64 t] 88) = w24 at *
          generalize w23.heap.size = bE at *
          have neE_Z : bE ≠ w.heap.size := by omega
          have neE_S : bE ≠ bS := by omega
          clear nzE_Z nzE_S
          have yZ := KZ.out
          have yZ_0 := yZ.c 0 _ rfl
          have yZ_1 := yZ.c 1 _ rfl
          have yZ_2 := yZ.c 2 _ rfl
          have yZ_3 := yZ.c 3 _ rfl
          have yZ_z := yZ.lt
          clear yZ
          refine bodyPost_ret (v := .tuple #[.agg #[.int .i64 0, .int .i64 0, .int .i64 0, .int .i64 0], .int .i64 14]) (by simp [results, Tryz.results12, go_sem, yZ_0, yZ_1, yZ_2, yZ_3]) rfl ⟨by rw [HV.out]; rfl, HB.out⟩
        · have g : (t == 0) = false := by simpa using hd
          have HRD2 := Lib.hid (HRD.out hd)
          clear hd
          have HA := Lib.hid ((Below.refl w22.heap.size w22).alloc (Nat.le_refl _) (.cells #[.int .i64 (hiW x), .int .u64 (loW x), .int .i64 (hiW y), .int .u64 (loW y), .int .i64 (hiW u), .int .u64 (loW u), .int .i64 (hiW v), .int .u64 (loW v), .int .i64 t] 88))
          have HS9 := Lib.hid (show w9.heap.size ≤ w22.heap.size from HBW.out.size)
          go_wp2_with (at_builtin; refine Halt.mk ?_)
          unfold Halt
          refine wpList_oe rfl (.tmp 40) (.tmp 42) rfl w9.heap.size u6 (rowsL l (K.take k)) rfl (w22.alloc (.cells #[.int .i64 (hiW x), .int .u64 (loW x), .int .i64 (hiW y), .int .u64 (loW y), .int .i64 (hiW u), .int .u64 (loW u), .int .i64 (hiW v), .int .u64 (loW v), .int .i64 t] 88)) (HO3.out.below HA.out) _ ⟨x, y, u, v, t⟩ 1 (by rw [World.size_alloc]; rfl) RL.out (by have := HS9.out; simp; omega) ?_
          intro u2 w5 ho5 hg5 hat5
          have HO5 : Hid (OE w9.heap.size w5 u2 (rowsL l (K.take (k + 1)))) := Lib.hid (by rw [RS.out]; exact ho5)
          have HB5 : Hid (Below w9.heap.size w9 w5) := Lib.hid (below_grown ((HBW.out.trans (HA.out.mono HS9.out)).alloc (by simp; have := HS9.out; omega) _) hg5 (by simp; have := HS9.out; omega) (fun k hk => (OL.out k hk).1))
          clear hg5 hat5
          obtain ⟨g5, cap5, hu2⟩ := Go.Joins.ownsRow_form ho5 (show 0 < (rowsL l (K.take k) ++ [(⟨x, y, u, v, t⟩ : Ex)]).length by rw [List.length_append, List.length_singleton]; omega)
          obtain ⟨N5, hN5⟩ : ∃ N, (rowsL l (K.take k) ++ [(⟨x, y, u, v, t⟩ : Ex)]).length = N := ⟨_, rfl⟩
          rw [hN5] at hu2
          clear ho5 hN5
          subst hu2
          go_wp2
          exact ⟨⟨k + 1, by go_num, by omega, HB5, HO5, HRD2⟩, by simp [intOf]; omega⟩
      · obtain rfl : k = K.length := by omega
        rw [List.take_length] at HO
        replace KZ := Lib.hid (KZ.out.below HBR.out)
        replace KS := Lib.hid (KS.out.below HBR.out)
        replace HB := Lib.hid (HB.out.trans (HBR.out.mono HB.out.size))
        obtain ⟨pe, cape, hpe⟩ := oe_form HO.out
        subst hpe
        rw [rows_len] at HO
        have EA := Lib.hid fun k (q : k < K.length) => oe_at (p := pe) (cap := cape) (l := rowsL l K) (by rw [rows_len]; exact HO.out) (k := k) (by rw [rows_len]; exact q)
        simp only [rows_len] at *
        clear HO hk q HL9 IK
        have EA2 : Hid (∀ k, k < K.length → ∃ g, pe = some ⟨g, 0, none⟩ ∧ K.length ≤ cape ∧ cape ≤ 9223372036854775807 ∧ g < wr.heap.size ∧ ExAt (rowsL l K) g (wr.alloc (.cells #[.int .i64 cx, .int .i64 cy, .int .i64 0, .int .i64 0] 26))) := Lib.hid fun k q => by
          obtain ⟨g, a1, a2, a3, a4⟩ := EA.out k q
          exact ⟨g, a1, a2, a3, a4.lt, a4.below ((Below.refl _ _).alloc (Nat.le_refl _) _)⟩
        clear EA HBR
        have yS := KS.out
        have yS_0 := yS.c 0 _ rfl
        have yS_1 := yS.c 1 _ rfl
        have yS_2 := yS.c 2 _ rfl
        have yS_3 := yS.c 3 _ rfl
        have yS_4 := yS.c 4 _ rfl
        have yS_5 := yS.c 5 _ rfl
        have yS_6 := yS.c 6 _ rfl
        have yS_z := yS.lt
        clear yS
        go_wp2
        have KB := Lib.hid (Blk.of (vs := #[.int .i64 cx, .int .i64 cy, .int .i64 0, .int .i64 0]) (t := 26) (w := wr) (b := wr.heap.size) rfl)
        have hb31 : Below wr.heap.size wr (wr.alloc (.cells #[.int .i64 cx, .int .i64 cy, .int .i64 0, .int .i64 0] 26)) := (Below.refl _ _).alloc (Nat.le_refl _) _
        have hnB := HB.out.size
        have nzB_Z := KZ.out.lt
        have nzB_S := KS.out.lt
        replace HB := Lib.hid (HB.out.trans (hb31.mono HB.out.size))
        replace KZ := Lib.hid (KZ.out.below hb31)
        replace KS := Lib.hid (KS.out.below hb31)
        clear yS_0 yS_1 yS_2 yS_3 yS_4 yS_5 yS_6 yS_z
        clear hb31
        generalize wr.alloc (.cells #[.int .i64 cx, .int .i64 cy, .int .i64 0, .int .i64 0] 26) = w31 at *
        generalize wr.heap.size = bB at *
        have neB_Z : bB ≠ w.heap.size := by omega
        have neB_S : bB ≠ bS := by omega
        have HZ0 := KZ
        have HS0 := KS
        have HB00 := HB
        have h31 := Nat.le_of_lt KB.out.lt
        go_loopw [50] (LvR2 l K cx cy bB w31) (fun i _ => K.length - (intOf i).toNat)
        case atStart => exact ⟨0, rfl, Nat.zero_le _, Lib.hid (Below.refl _ _), KB, Lib.hid fun i hi => absurd hi (by omega)⟩
        case round =>
          clear KB KZ KS HB
          obtain ⟨k, rfl, hk, HBR, KB, HW⟩ := hrel
          have KZ := Lib.hid (blk_keep HZ0.out HBR.out nzB_Z)
          have KS := Lib.hid (blk_keep HS0.out HBR.out nzB_S)
          have HB := Lib.hid (HB00.out.trans (HBR.out.mono hnB))
          by_cases q : k < K.length
          · have q' : decide (k < K.length) = true := by simpa using q
            obtain ⟨gk, rfl, hk1, hk2, glt, EAT⟩ := EA2.out k q
            have EAW := ex_keep EAT HBR.out glt
            have c0 := EAW.c0 k (by rw [rows_len]; exact q)
            rw [rows_nth l q] at c0
            have c1 := EAW.c1 k (by rw [rows_len]; exact q)
            rw [rows_nth l q] at c1
            have c2 := EAW.c2 k (by rw [rows_len]; exact q)
            rw [rows_nth l q] at c2
            have c3 := EAW.c3 k (by rw [rows_len]; exact q)
            rw [rows_nth l q] at c3
            have c4 := EAW.c4 k (by rw [rows_len]; exact q)
            rw [rows_nth l q] at c4
            have c5 := EAW.c5 k (by rw [rows_len]; exact q)
            rw [rows_nth l q] at c5
            have c6 := EAW.c6 k (by rw [rows_len]; exact q)
            rw [rows_nth l q] at c6
            have c7 := EAW.c7 k (by rw [rows_len]; exact q)
            rw [rows_nth l q] at c7
            have c8 := EAW.c8 k (by rw [rows_len]; exact q)
            rw [rows_nth l q] at c8
            have clt := EAW.lt
            clear EAT EAW
            have MX := Lib.hid (show maxF (mxF l cx cy) (K.take (k + 1)) = max (maxF (mxF l cx cy) (K.take k)) (reachF cx cy (woL l (K.getD k 0))).1.1 by rw [take_int q, max_snoc]; rfl)
            have MY := Lib.hid (show maxF (myF l cx cy) (K.take (k + 1)) = max (maxF (myF l cx cy) (K.take k)) (reachF cx cy (woL l (K.getD k 0))).1.2 by rw [take_int q, max_snoc]; rfl)
            have RE2 := Lib.hid fun w => RE.out (K.getD k 0) (HR.out k q) w
            have ER := Lib.hid fun hw => EV2.out HR.out (K.getD k 0) (KM.out k q) hw
            have RB := reach_bad cx cy (woL l (K.getD k 0))
            have HWN := Lib.hid fun (h : (reachF cx cy (woL l (K.getD k 0))).2 = 0) i (hi : i < k + 1) => show (reachF cx cy (woL l (K.getD i 0))).2 = 0 from by rcases Nat.lt_or_ge i k with a | a; exact HW.out i a; rw [show i = k by omega]; exact h
            generalize maxF (mxF l cx cy) (K.take k) = m1 at *
            generalize maxF (myF l cx cy) (K.take k) = m2 at *
            have EX : exW l (K.getD k 0) = ⟨solX (woL l (K.getD k 0)), solY (woL l (K.getD k 0)), noiX (woL l (K.getD k 0)), noiY (woL l (K.getD k 0)), detN (woL l (K.getD k 0))⟩ := rfl
            generalize exW l (K.getD k 0) = ex at *
            generalize woL l (K.getD k 0) = lw at *
            obtain ⟨x, y, u, v, t⟩ := ex
            injection EX with ex1 ex2 ex3 ex4 ex5
            rw [← ex1, ← ex2, ← ex3, ← ex4, ← ex5] at RE2
            simp only at c0 c1 c2 c3 c4 c5 c6 c7 c8
            clear ex1 ex2 ex3 ex4 ex5
            obtain ⟨R, hR⟩ : ∃ z, reachF cx cy lw = z := ⟨_, rfl⟩
            rw [hR] at RE2 ER RB HWN MX MY
            clear hR
            have yS := KS.out
            have yS_0 := yS.c 0 _ rfl
            have yS_1 := yS.c 1 _ rfl
            have yS_2 := yS.c 2 _ rfl
            have yS_3 := yS.c 3 _ rfl
            have yS_4 := yS.c 4 _ rfl
            have yS_5 := yS.c 5 _ rfl
            have yS_6 := yS.c 6 _ rfl
            have yS_z := yS.lt
            clear yS
            go_wp2_with fail
            have KC := Lib.hid (Blk.of (vs := #[.int .i64 (hiW x), .int .u64 (loW x), .int .i64 (hiW y), .int .u64 (loW y), .int .i64 (hiW u), .int .u64 (loW u), .int .i64 (hiW v), .int .u64 (loW v), .int .i64 t]) (t := 88) (w := wr) (b := wr.heap.size) rfl)
            have hb51 : Below wr.heap.size wr (wr.alloc (.cells #[.int .i64 (hiW x), .int .u64 (loW x), .int .i64 (hiW y), .int .u64 (loW y), .int .i64 (hiW u), .int .u64 (loW u), .int .i64 (hiW v), .int .u64 (loW v), .int .i64 t] 88)) := (Below.refl _ _).alloc (Nat.le_refl _) _
            have hnC := HB.out.size
            have nzC_Z := KZ.out.lt
            have nzC_S := KS.out.lt
            have nzC_B := KB.out.lt
            replace HB := Lib.hid (HB.out.trans (hb51.mono HB.out.size))
            replace KZ := Lib.hid (KZ.out.below hb51)
            replace KS := Lib.hid (KS.out.below hb51)
            replace KB := Lib.hid (KB.out.below hb51)
            replace HBR := Lib.hid (HBR.out.trans (hb51.mono (Nat.le_trans h31 HBR.out.size)))
            clear yS_0 yS_1 yS_2 yS_3 yS_4 yS_5 yS_6 yS_z
            clear hb51
            generalize wr.alloc (.cells #[.int .i64 (hiW x), .int .u64 (loW x), .int .i64 (hiW y), .int .u64 (loW y), .int .i64 (hiW u), .int .u64 (loW u), .int .i64 (hiW v), .int .u64 (loW v), .int .i64 t] 88) = w51 at *
            generalize wr.heap.size = bC at *
            have neC_Z : bC ≠ w.heap.size := by omega
            have neC_S : bC ≠ bS := by omega
            have neC_B : bC ≠ bB := by omega
            clear nzC_Z nzC_S nzC_B
            clear c0 c1 c2 c3 c4 c5 c6 c7 c8 clt
            refine (RE2.out _).mono ?_
            rintro e52 w52 ⟨rfl, hb52⟩
            replace HB := Lib.hid (HB.out.trans (hb52.mono HB.out.size))
            replace KZ := Lib.hid (KZ.out.below hb52)
            replace KS := Lib.hid (KS.out.below hb52)
            replace KB := Lib.hid (KB.out.below hb52)
            replace KC := Lib.hid (KC.out.below hb52)
            replace HBR := Lib.hid (HBR.out.trans (hb52.mono (Nat.le_trans h31 HBR.out.size)))
            clear hb52
            clear RE2
            rcases RB with RB | rfl
            · obtain ⟨⟨rx, ry⟩, re⟩ := R
              simp only at RB
              subst RB
              have HWN2 := Lib.hid (HWN.out rfl)
              have MX2 := Lib.hid MX.out
              have MY2 := Lib.hid MY.out
              clear ER HWN MX MY
              have yB := KB.out
              have yB_0 := yB.c 0 _ rfl
              have yB_1 := yB.c 1 _ rfl
              have yB_2 := yB.c 2 _ rfl
              have yB_3 := yB.c 3 _ rfl
              have yB_z := yB.lt
              have yB_f0 := yB.f 0 _ rfl
              have yB_f1 := yB.f 1 _ rfl
              have yB_f2 := yB.f 2 _ rfl
              have yB_f3 := yB.f 3 _ rfl
              clear yB
              go_wp2
              replace KZ := Lib.hid (blk_other (b := w.heap.size) (n := bB) (j := 3) (blk_other (b := w.heap.size) (n := bB) (j := 2) KZ.out (by omega) (.int .i64 (max m1 rx))) (by omega) (.int .i64 (max m2 ry)))
              replace KS := Lib.hid (blk_other (b := bS) (n := bB) (j := 3) (blk_other (b := bS) (n := bB) (j := 2) KS.out (by omega) (.int .i64 (max m1 rx))) (by omega) (.int .i64 (max m2 ry)))
              replace KB := Lib.hid (blk_set (blk_set KB.out (j := 2) (by simp) (.int .i64 (max m1 rx))) (j := 3) (by simp) (.int .i64 (max m2 ry)))
              replace KC := Lib.hid (blk_other (b := bC) (n := bB) (j := 3) (blk_other (b := bC) (n := bB) (j := 2) KC.out (by omega) (.int .i64 (max m1 rx))) (by omega) (.int .i64 (max m2 ry)))
              replace HB := Lib.hid ((HB.out.setCell (p := ⟨bB, 2, none⟩) (show w.heap.size ≤ bB by omega) (.int .i64 (max m1 rx))).setCell (p := ⟨bB, 3, none⟩) (show w.heap.size ≤ bB by omega) (.int .i64 (max m2 ry)))
              replace HBR := Lib.hid ((HBR.out.setCell (p := ⟨bB, 2, none⟩) (Nat.le_refl _) (.int .i64 (max m1 rx))).setCell (p := ⟨bB, 3, none⟩) (Nat.le_refl _) (.int .i64 (max m2 ry)))
              clear yB_0 yB_1 yB_2 yB_3 yB_z yB_f0 yB_f1 yB_f2 yB_f3
              generalize (w52.setCell ⟨bB, 2, none⟩ (.int .i64 (max m1 rx))).setCell ⟨bB, 3, none⟩ (.int .i64 (max m2 ry)) = w53 at *
              simp only [List.set] at KB
              exact ⟨⟨k + 1, by go_num, by omega, HBR, by rw [MX2.out, MY2.out]; exact KB, HWN2⟩, by simp [intOf]; omega⟩
            · have HV := Lib.hid (ER.out (by simp))
              clear ER HWN MX MY
              have yZ := KZ.out
              have yZ_0 := yZ.c 0 _ rfl
              have yZ_1 := yZ.c 1 _ rfl
              have yZ_2 := yZ.c 2 _ rfl
              have yZ_3 := yZ.c 3 _ rfl
              have yZ_z := yZ.lt
              have yZ_f0 := yZ.f 0 _ rfl
              have yZ_f1 := yZ.f 1 _ rfl
              have yZ_f2 := yZ.f 2 _ rfl
              have yZ_f3 := yZ.f 3 _ rfl
              clear yZ
              go_wp2
              replace KZ := Lib.hid (blk_set (blk_set (blk_set (blk_set KZ.out (j := 0) (by simp) (.int .i64 0)) (j := 1) (by simp) (.int .i64 0)) (j := 2) (by simp) (.int .i64 0)) (j := 3) (by simp) (.int .i64 0))
              replace KS := Lib.hid (blk_other (b := bS) (n := w.heap.size) (j := 3) (blk_other (b := bS) (n := w.heap.size) (j := 2) (blk_other (b := bS) (n := w.heap.size) (j := 1) (blk_other (b := bS) (n := w.heap.size) (j := 0) KS.out (by omega) (.int .i64 0)) (by omega) (.int .i64 0)) (by omega) (.int .i64 0)) (by omega) (.int .i64 0))
              replace KB := Lib.hid (blk_other (b := bB) (n := w.heap.size) (j := 3) (blk_other (b := bB) (n := w.heap.size) (j := 2) (blk_other (b := bB) (n := w.heap.size) (j := 1) (blk_other (b := bB) (n := w.heap.size) (j := 0) KB.out (by omega) (.int .i64 0)) (by omega) (.int .i64 0)) (by omega) (.int .i64 0)) (by omega) (.int .i64 0))
              replace KC := Lib.hid (blk_other (b := bC) (n := w.heap.size) (j := 3) (blk_other (b := bC) (n := w.heap.size) (j := 2) (blk_other (b := bC) (n := w.heap.size) (j := 1) (blk_other (b := bC) (n := w.heap.size) (j := 0) KC.out (by omega) (.int .i64 0)) (by omega) (.int .i64 0)) (by omega) (.int .i64 0)) (by omega) (.int .i64 0))
              replace HB := Lib.hid ((((HB.out.setCell (p := ⟨w.heap.size, 0, none⟩) (show w.heap.size ≤ w.heap.size by omega) (.int .i64 0)).setCell (p := ⟨w.heap.size, 1, none⟩) (show w.heap.size ≤ w.heap.size by omega) (.int .i64 0)).setCell (p := ⟨w.heap.size, 2, none⟩) (show w.heap.size ≤ w.heap.size by omega) (.int .i64 0)).setCell (p := ⟨w.heap.size, 3, none⟩) (show w.heap.size ≤ w.heap.size by omega) (.int .i64 0))
              clear yZ_0 yZ_1 yZ_2 yZ_3 yZ_z yZ_f0 yZ_f1 yZ_f2 yZ_f3
              generalize (((w52.setCell ⟨w.heap.size, 0, none⟩ (.int .i64 0)).setCell ⟨w.heap.size, 1, none⟩ (.int .i64 0)).setCell ⟨w.heap.size, 2, none⟩ (.int .i64 0)).setCell ⟨w.heap.size, 3, none⟩ (.int .i64 0) = w53 at *
              simp only [List.set] at KZ
              have yZ := KZ.out
              have yZ_0 := yZ.c 0 _ rfl
              have yZ_1 := yZ.c 1 _ rfl
              have yZ_2 := yZ.c 2 _ rfl
              have yZ_3 := yZ.c 3 _ rfl
              have yZ_z := yZ.lt
              clear yZ
              refine bodyPost_ret (v := .tuple #[.agg #[.int .i64 0, .int .i64 0, .int .i64 0, .int .i64 0], .int .i64 2]) (by simp [results, Tryz.results12, go_sem, yZ_0, yZ_1, yZ_2, yZ_3]) rfl ⟨by rw [HV.out]; rfl, HB.out⟩
          · obtain rfl : k = K.length := by omega
            rw [List.take_length] at KB
            have HV := Lib.hid (EV3.out HR.out HW.out)
            generalize maxF (mxF l cx cy) K = m1 at *
            generalize maxF (myF l cx cy) K = m2 at *
            have yZ := KZ.out
            have yZ_0 := yZ.c 0 _ rfl
            have yZ_1 := yZ.c 1 _ rfl
            have yZ_2 := yZ.c 2 _ rfl
            have yZ_3 := yZ.c 3 _ rfl
            have yZ_z := yZ.lt
            have yZ_f0 := yZ.f 0 _ rfl
            have yZ_f1 := yZ.f 1 _ rfl
            have yZ_f2 := yZ.f 2 _ rfl
            have yZ_f3 := yZ.f 3 _ rfl
            clear yZ
            have yB := KB.out
            have yB_0 := yB.c 0 _ rfl
            have yB_1 := yB.c 1 _ rfl
            have yB_2 := yB.c 2 _ rfl
            have yB_3 := yB.c 3 _ rfl
            have yB_z := yB.lt
            clear yB
            go_wp2
            replace KZ := Lib.hid (blk_set (blk_set (blk_set (blk_set KZ.out (j := 0) (by simp) (.int .i64 cx)) (j := 1) (by simp) (.int .i64 cy)) (j := 2) (by simp) (.int .i64 m1)) (j := 3) (by simp) (.int .i64 m2))
            replace KS := Lib.hid (blk_other (b := bS) (n := w.heap.size) (j := 3) (blk_other (b := bS) (n := w.heap.size) (j := 2) (blk_other (b := bS) (n := w.heap.size) (j := 1) (blk_other (b := bS) (n := w.heap.size) (j := 0) KS.out (by omega) (.int .i64 cx)) (by omega) (.int .i64 cy)) (by omega) (.int .i64 m1)) (by omega) (.int .i64 m2))
            replace KB := Lib.hid (blk_other (b := bB) (n := w.heap.size) (j := 3) (blk_other (b := bB) (n := w.heap.size) (j := 2) (blk_other (b := bB) (n := w.heap.size) (j := 1) (blk_other (b := bB) (n := w.heap.size) (j := 0) KB.out (by omega) (.int .i64 cx)) (by omega) (.int .i64 cy)) (by omega) (.int .i64 m1)) (by omega) (.int .i64 m2))
            replace HB := Lib.hid ((((HB.out.setCell (p := ⟨w.heap.size, 0, none⟩) (show w.heap.size ≤ w.heap.size by omega) (.int .i64 cx)).setCell (p := ⟨w.heap.size, 1, none⟩) (show w.heap.size ≤ w.heap.size by omega) (.int .i64 cy)).setCell (p := ⟨w.heap.size, 2, none⟩) (show w.heap.size ≤ w.heap.size by omega) (.int .i64 m1)).setCell (p := ⟨w.heap.size, 3, none⟩) (show w.heap.size ≤ w.heap.size by omega) (.int .i64 m2))
            clear yZ_0 yZ_1 yZ_2 yZ_3 yZ_z yZ_f0 yZ_f1 yZ_f2 yZ_f3 yB_0 yB_1 yB_2 yB_3 yB_z
            generalize (((wr.setCell ⟨w.heap.size, 0, none⟩ (.int .i64 cx)).setCell ⟨w.heap.size, 1, none⟩ (.int .i64 cy)).setCell ⟨w.heap.size, 2, none⟩ (.int .i64 m1)).setCell ⟨w.heap.size, 3, none⟩ (.int .i64 m2) = w51 at *
            simp only [List.set] at KZ
            have yZ := KZ.out
            have yZ_0 := yZ.c 0 _ rfl
            have yZ_1 := yZ.c 1 _ rfl
            have yZ_2 := yZ.c 2 _ rfl
            have yZ_3 := yZ.c 3 _ rfl
            have yZ_z := yZ.lt
            clear yZ
            refine bodyPost_ret (v := .tuple #[.agg #[.int .i64 cx, .int .i64 cy, .int .i64 m1, .int .i64 m2], .int .i64 0]) (by simp [results, Tryz.results12, go_sem, yZ_0, yZ_1, yZ_2, yZ_3]) rfl ⟨by rw [HV.out]; rfl, HB.out⟩
  · have SO := Lib.hid fun w h => sol_bad l (.slice p l.length cap) w h hs
    have HV : Hid (levF l = (box0, solE l)) := Lib.hid (by unfold levF; rw [if_neg hs])
    have g : (solE l != 0) = true := by simpa using hs
    have g' : (solE l == 0) = false := by simpa using hs
    clear hs
    generalize solE l = c at *
    have H0 := Lib.hid h
    have KZ := Lib.hid (Blk.of (vs := #[.int .i64 0, .int .i64 0, .int .i64 0, .int .i64 0]) (t := 26) (w := w) (b := w.heap.size) (by simp))
    have HB := Lib.hid ((Below.refl w.heap.size w).alloc (by simp; try omega) (.cells #[.int .i64 0, .int .i64 0, .int .i64 0, .int .i64 0] 26))
    go_enter Tryz.func12, Tryz.ntmps12
    clear h
    go_wp2_with fail
    generalize w.alloc (.cells #[.int .i64 0, .int .i64 0, .int .i64 0, .int .i64 0] 26) = w0 at *
    refine (SO.out _ (H0.out.below HB.out)).mono ?_
    rintro e1 w1 ⟨rfl, hb1⟩
    replace HB := Lib.hid (HB.out.trans (hb1.mono HB.out.size))
    replace KZ := Lib.hid (KZ.out.below hb1)
    clear hb1
    have yZ := KZ.out
    have yZ_0 := yZ.c 0 _ rfl
    have yZ_1 := yZ.c 1 _ rfl
    have yZ_2 := yZ.c 2 _ rfl
    have yZ_3 := yZ.c 3 _ rfl
    have yZ_z := yZ.lt
    have yZ_f0 := yZ.f 0 _ rfl
    have yZ_f1 := yZ.f 1 _ rfl
    have yZ_f2 := yZ.f 2 _ rfl
    have yZ_f3 := yZ.f 3 _ rfl
    clear yZ
    go_wp2
    replace KZ := Lib.hid (blk_set (blk_set (blk_set (blk_set KZ.out (j := 0) (by simp) (.int .i64 0)) (j := 1) (by simp) (.int .i64 0)) (j := 2) (by simp) (.int .i64 0)) (j := 3) (by simp) (.int .i64 0))
    replace HB := Lib.hid ((((HB.out.setCell (p := ⟨w.heap.size, 0, none⟩) (show w.heap.size ≤ w.heap.size by omega) (.int .i64 0)).setCell (p := ⟨w.heap.size, 1, none⟩) (show w.heap.size ≤ w.heap.size by omega) (.int .i64 0)).setCell (p := ⟨w.heap.size, 2, none⟩) (show w.heap.size ≤ w.heap.size by omega) (.int .i64 0)).setCell (p := ⟨w.heap.size, 3, none⟩) (show w.heap.size ≤ w.heap.size by omega) (.int .i64 0))
    clear yZ_0 yZ_1 yZ_2 yZ_3 yZ_z yZ_f0 yZ_f1 yZ_f2 yZ_f3
    generalize (((w1.setCell ⟨w.heap.size, 0, none⟩ (.int .i64 0)).setCell ⟨w.heap.size, 1, none⟩ (.int .i64 0)).setCell ⟨w.heap.size, 2, none⟩ (.int .i64 0)).setCell ⟨w.heap.size, 3, none⟩ (.int .i64 0) = w2 at *
    simp only [List.set] at KZ
    have KS := Lib.hid (Blk.of (vs := #[.int .i64 0, .int .u64 0, .int .i64 0, .int .u64 0, .int .i64 0, .int .i64 0, .int .i64 0]) (t := 81) (w := w2) (b := w2.heap.size) rfl)
    have hb3 : Below w2.heap.size w2 (w2.alloc (.cells #[.int .i64 0, .int .u64 0, .int .i64 0, .int .u64 0, .int .i64 0, .int .i64 0, .int .i64 0] 81)) := (Below.refl _ _).alloc (Nat.le_refl _) _
    have hnS := HB.out.size
    have nzS_Z := KZ.out.lt
    replace HB := Lib.hid (HB.out.trans (hb3.mono HB.out.size))
    replace KZ := Lib.hid (KZ.out.below hb3)
    clear hb3
    generalize w2.alloc (.cells #[.int .i64 0, .int .u64 0, .int .i64 0, .int .u64 0, .int .i64 0, .int .i64 0, .int .i64 0] 81) = w3 at *
    generalize w2.heap.size = bS at *
    have neS_Z : bS ≠ w.heap.size := by omega
    clear nzS_Z
    have yZ := KZ.out
    have yZ_0 := yZ.c 0 _ rfl
    have yZ_1 := yZ.c 1 _ rfl
    have yZ_2 := yZ.c 2 _ rfl
    have yZ_3 := yZ.c 3 _ rfl
    have yZ_z := yZ.lt
    clear yZ
    refine bodyPost_ret (v := .tuple #[.agg #[.int .i64 0, .int .i64 0, .int .i64 0, .int .i64 0], .int .i64 c]) (by simp [results, Tryz.results12, go_sem, yZ_0, yZ_1, yZ_2, yZ_3]) rfl ⟨by rw [HV.out]; rfl, HB.out⟩
end Go.Proofs.YtidelghgjibndaaGreat
namespace Go.Proofs.YtidelghgjibndaaGreat
set_option linter.unusedVariables false
open Go.RowKit
theorem agedN_any (r : Rp) (tick speed : Int) (w : World) (k0 : 0 ≤ r.k) (k1 : r.k ≤ 255) : Calls Tryz.prog 27 #[.agg #[.int .i64 r.s, .int .u8 r.k, .int .i64 r.x, .int .i64 r.y, .int .i64 r.v, .int .i64 r.b, .int .i64 r.wt, .int .i64 r.t], .int .i64 tick, .int .i64 speed] w fun e w' => e = .returned (.tuple #[.agg #[.int .i64 (agedN r tick speed).1.s, .int .u8 (agedN r tick speed).1.k, .int .i64 (agedN r tick speed).1.x, .int .i64 (agedN r tick speed).1.y, .int .i64 (agedN r tick speed).1.v, .int .i64 (agedN r tick speed).1.b, .int .i64 (agedN r tick speed).1.wt, .int .i64 (agedN r tick speed).1.t], .int .i64 (agedN r tick speed).2]) ∧ Below w.heap.size w w' := S41.aged_any r.s r.k r.x r.y r.v r.b r.wt r.t tick speed w k0 k1
def NvR (L : List Rp) (px py fa : Int) (W : World) (v14 v15 v16 : Value) (wr : World) : Prop := ∃ (k : Nat) (ms : List Ms) (hb : Bool), v16 = .int .i64 k ∧ v15 = .bool hb ∧ k ≤ L.length ∧ Hid (ms.length ≤ 2 * k ∧ ms.length ≤ 16) ∧ Hid (Below W.heap.size W wr) ∧ Hid (OM W.heap.size wr v14 ms) ∧ Hid (NvI fa px py ms hb)
theorem below_om {B B' : Nat} {w : World} {v : Value} {l : List Ms} (hB : B ≤ B') (h : OM B' w v l) : OM B w v l := by
  unfold OM World.ownsRow at *
  obtain ⟨h1, h2⟩ := h
  refine ⟨h1, ?_⟩
  rcases h2 with h2 | ⟨g, cap, cur, e, hb, r⟩
  · exact .inl h2
  · exact .inr ⟨g, cap, cur, e, Nat.le_trans hB hb, r⟩
set_option maxHeartbeats 40000000 in
set_option maxRecDepth 100000 in
theorem nvr_any (L : List Rp) (v : Value) (tick sp cx cy bx b2 fa : Int) (P : List Pt) (pv : Value) (w : World) (h : RlAt L v w) (hK : ∀ i, i < L.length → 0 ≤ (nthR L i).k ∧ (nthR L i).k ≤ 255) (hp : PlAt P pv w) (hs : SlowP P sp) (hi : inN cx cy bx b2 (nthP P 0).x (nthP P 0).y = true) :
    Calls Tryz.prog 11 #[v, .int .i64 tick, .int .i64 sp, .agg #[.int .i64 cx, .int .i64 cy, .int .i64 bx, .int .i64 b2], pv, .int .i64 fa] w fun e w' => (∃ u ms hb, e = .returned (.tuple #[u, .bool hb]) ∧ OM w.heap.size w' u ms ∧ NvI fa (nthP P 0).x (nthP P 0).y ms hb ∧ ms.length ≤ 16) ∧ Below w.heap.size w w' := by
  have KK := Lib.hid hK
  have HS := Lib.hid hs
  clear hK hs
  obtain ⟨p, cap, rfl⟩ := rl_form h
  obtain ⟨pp, capp, rfl⟩ := pl_form hp
  have H0 := Lib.hid h
  have HP0 := Lib.hid hp
  have KC := Lib.hid (Blk.of (vs := #[.int .i64 cx, .int .i64 cy, .int .i64 bx, .int .i64 b2]) (t := 26) (w := w) (b := w.heap.size) (by simp))
  have HB := Lib.hid ((Below.refl w.heap.size w).alloc (by simp; try omega) (.cells #[.int .i64 cx, .int .i64 cy, .int .i64 bx, .int .i64 b2] 26))
  go_enter Tryz.func11, Tryz.ntmps11
  clear h hp
  have KC1 := KC
  have HB1 := HB
  have hC1 := KC.out.lt
  go_wp2
  have hz1 : (w.alloc (.cells #[.int .i64 cx, .int .i64 cy, .int .i64 bx, .int .i64 b2] 26)).heap.size = w.heap.size + 1 := by simp
  generalize w.alloc (.cells #[.int .i64 cx, .int .i64 cy, .int .i64 bx, .int .i64 b2] 26) = w1 at *
  have h11 := HB.out.size
  go_loopw [14, 15, 16] (NvR L (nthP P 0).x (nthP P 0).y fa w1) (fun _ _ i _ => L.length - (intOf i).toNat)
  case atStart => exact ⟨0, [], true, rfl, rfl, Nat.zero_le _, Lib.hid (by simp), Lib.hid ((Below.refl _ _).alloc (Nat.le_refl _) _), Lib.hid (by rw [← hz1]; exact World.ownsRow_lit w1 #[] 0 (Nat.le_refl _) (by decide) rfl), Lib.hid (nv_nil _ _ _)⟩
  case round =>
    clear KC HB
    obtain ⟨k, ms, hb, rfl, rfl, hk, HL, HBR, HO, HI⟩ := hrel
    have KC := Lib.hid (blk_keep KC1.out HBR.out hC1)
    have HB := Lib.hid (HB1.out.trans (HBR.out.mono h11))
    by_cases q : k < L.length
    · by_cases q8 : k < 8
      · have q' : decide (k < L.length) = true := by simpa using q
        have q8' : decide (k < 8) = true := by simpa using q8
        have q9 : decide ((k : Int) < 8) = true := by simp; omega
        obtain ⟨b, o, rfl, hcap, hmax, RA⟩ := rl_at (H0.out.below HB.out) q
        have HR := Lib.hid RA
        have c0 := RA.c0 k q
        have c1 := RA.c1 k q
        have c2 := RA.c2 k q
        have c3 := RA.c3 k q
        have c4 := RA.c4 k q
        have c5 := RA.c5 k q
        have c6 := RA.c6 k q
        have c7 := RA.c7 k q
        have clt := RA.lt
        clear RA
        have hkk := KK.out k q
        obtain ⟨rr, hrr⟩ : ∃ z, nthR L k = z := ⟨_, rfl⟩
        rw [hrr] at c0 c1 c2 c3 c4 c5 c6 c7 hkk
        have HRR := Lib.hid hrr
        clear hrr
        have AD := Lib.hid fun w => agedN_any rr tick sp w hkk.1 hkk.2
        have hk2 := agedN_kind (tick := tick) (speed := sp) hkk.1 hkk.2
        have RW := Lib.hid fun w => rowsN_any (agedN rr tick sp).1 cx cy bx b2 w hk2.1 hk2.2
        have AGR := Lib.hid fun px py w => agN_any rr px py w hkk.1 hkk.2
        have SRC := Lib.hid fun h => agedN_src (r := rr) (tick := tick) (speed := sp) h
        have LN := Lib.hid (rowsN_len (agedN rr tick sp).1 cx cy bx b2)
        have RG := Lib.hid (rowsN_good (r := (agedN rr tick sp).1) (cx := cx) (cy := cy) (bx := bx) (b2 := b2))
        have N1 := Lib.hid fun h1 => nv_lie (r := rr) (tick := tick) (sp := sp) (cx := cx) (cy := cy) (bx := bx) (b2 := b2) HI.out h1
        have N2 := Lib.hid fun (e : fa = rr.s) h0 h1 => show NvI fa _ _ _ _ from by subst e; exact nv_own (r := rr) (tick := tick) (sp := sp) (cx := cx) (cy := cy) (bx := bx) (b2 := b2) HI.out h0 h1
        have N3 := Lib.hid fun (a : Nat) h0 h1 hk hl ha => nv_true (k := a) (r := rr) (tick := tick) HI.out HS.out hi h0 h1 hk hl ha
        obtain ⟨R, hR⟩ : ∃ z, rowsN (agedN rr tick sp).1 cx cy bx b2 = z := ⟨_, rfl⟩
        rw [hR] at RW N1 N2 N3 LN RG
        clear hR hkk hk2
        obtain ⟨pl, en⟩ := R
        simp only at RW N1 N2 N3 LN RG
        obtain ⟨A, hA⟩ : ∃ z, agedN rr tick sp = z := ⟨_, rfl⟩
        rw [hA] at AD RW SRC N2 N3
        clear hA
        obtain ⟨ag, ea⟩ := A
        simp only at AD RW SRC N2 N3
        go_wp2_with fail
        refine (AD.out _).mono ?_
        rintro e21 w21 ⟨rfl, hb21⟩
        replace HB := Lib.hid (HB.out.trans (hb21.mono HB.out.size))
        replace KC := Lib.hid (KC.out.below hb21)
        replace HO := Lib.hid (HO.out.below hb21)
        replace HR := Lib.hid (HR.out.below hb21)
        replace HBR := Lib.hid (HBR.out.trans (hb21.mono (Nat.le_trans (Nat.le_refl w1.heap.size) HBR.out.size)))
        clear hb21
        clear c0 c1 c2 c3 c4 c5 c6 c7 clt AD
        have yC := KC.out
        have yC_0 := yC.c 0 _ rfl
        have yC_1 := yC.c 1 _ rfl
        have yC_2 := yC.c 2 _ rfl
        have yC_3 := yC.c 3 _ rfl
        have yC_z := yC.lt
        clear yC
        go_wp2_with fail
        have KG := Lib.hid (Blk.of (vs := #[.int .i64 ag.s, .int .u8 ag.k, .int .i64 ag.x, .int .i64 ag.y, .int .i64 ag.v, .int .i64 ag.b, .int .i64 ag.wt, .int .i64 ag.t]) (t := 68) (w := w21) (b := w21.heap.size) rfl)
        have hb22 : Below w21.heap.size w21 (w21.alloc (.cells #[.int .i64 ag.s, .int .u8 ag.k, .int .i64 ag.x, .int .i64 ag.y, .int .i64 ag.v, .int .i64 ag.b, .int .i64 ag.wt, .int .i64 ag.t] 68)) := (Below.refl _ _).alloc (Nat.le_refl _) _
        have hnG := HB.out.size
        have nzG_C := KC.out.lt
        replace HB := Lib.hid (HB.out.trans (hb22.mono HB.out.size))
        replace KC := Lib.hid (KC.out.below hb22)
        replace HO := Lib.hid (HO.out.below hb22)
        replace HR := Lib.hid (HR.out.below hb22)
        replace HBR := Lib.hid (HBR.out.trans (hb22.mono (Nat.le_trans (Nat.le_refl w1.heap.size) HBR.out.size)))
        clear yC_0 yC_1 yC_2 yC_3 yC_z
        clear hb22
        generalize w21.alloc (.cells #[.int .i64 ag.s, .int .u8 ag.k, .int .i64 ag.x, .int .i64 ag.y, .int .i64 ag.v, .int .i64 ag.b, .int .i64 ag.wt, .int .i64 ag.t] 68) = w22 at *
        generalize w21.heap.size = bG at *
        have neG_C : bG ≠ w.heap.size := by omega
        clear nzG_C
        refine (RW.out _).mono ?_
        rintro e23 w23 ⟨ur, rfl, hrn, hb23⟩
        replace HB := Lib.hid (HB.out.trans (hb23.mono HB.out.size))
        replace KC := Lib.hid (KC.out.below hb23)
        replace KG := Lib.hid (KG.out.below hb23)
        replace HO := Lib.hid (HO.out.below hb23)
        replace HR := Lib.hid (HR.out.below hb23)
        replace HBR := Lib.hid (HBR.out.trans (hb23.mono (Nat.le_trans (Nat.le_refl w1.heap.size) HBR.out.size)))
        clear hb23
        clear RW
        by_cases ha : ea = 0
        · subst ha
          by_cases he : en = 0
          · subst he
            have hne := RG.out (by first | rfl | trivial)
            obtain ⟨kk, hur, hk2⟩ : ∃ kk : Nat, ur = .slice (some ⟨kk, 0, none⟩) pl.length pl.length ∧ w23.heap[kk]? = some (.cells (msC pl).toArray 59) := by
              rcases hrn with ⟨e, _⟩ | ⟨kk, _, e, _, h2⟩
              · exact absurd e hne
              · exact ⟨kk, e, h2⟩
            subst hur
            clear hrn RG
            have HK2 := Lib.hid hk2
            clear hk2
            have OL := Lib.hid (World.ownsRow.lt HO.out)
            go_wp2_with (at_builtin; refine Halt.mk ?_)
            unfold Halt
            refine wpList_oml rfl (.tmp 55) (.tmp 56) rfl w1.heap.size u14 ms rfl w23 HO.out kk pl rfl HK2.out (by have := HL.out; have := LN.out; omega) HBR.out.size ?_
            intro u2 w5 ho5 hg5 hat5
            clear hat5 HK2
            have HBR5 := Lib.hid (below_grown HBR.out hg5 HBR.out.size fun k hk => (OL.out k hk).1)
            have HB5 := Lib.hid (below_grown HB.out hg5 HB.out.size fun k hk => Nat.le_trans h11 (OL.out k hk).1)
            clear hg5
            have HO5 := Lib.hid ho5
            obtain ⟨g5, cap5, hu2⟩ := Go.Joins.ownsRow_form ho5 (show 0 < (ms ++ pl).length by rw [List.length_append]; have := List.length_pos_iff.2 hne; omega)
            obtain ⟨N5, hN5⟩ : ∃ N, (ms ++ pl).length = N := ⟨_, rfl⟩
            have HL5 : Hid (N5 ≤ 2 * (k + 1) ∧ N5 ≤ 16) := Lib.hid (by rw [← hN5, List.length_append]; have := HL.out; have := LN.out; omega)
            have HN5 := Lib.hid hN5
            rw [hN5] at hu2
            clear ho5 hN5
            subst hu2
            clear HO OL hne LN HL KG hnG neG_C
            replace HBR := HBR5
            replace HB := HB5
            replace HR := Lib.hid (show RpAt L b o w5 from by obtain ⟨b', o', e, _, _, ra⟩ := rl_at (H0.out.below HB.out) q; injection e with e; injection e with e1 e2; subst e1 e2; exact ra)
            clear HBR5 HB5
            replace KC := Lib.hid (blk_keep KC1.out HBR.out hC1)
            obtain ⟨hsr, ⟨ag0, ag1⟩, hsp⟩ := SRC.out (by first | rfl | trivial)
            obtain ⟨a, haa⟩ : ∃ a : Nat, (a : Int) = tick - rr.t := ⟨(tick - rr.t).toNat, by omega⟩
            have sa : IntKind.i64.wrap (tick - rr.t) = (a : Int) := by rw [IntWalk.i64_in _ (by omega)]; exact haa.symm
            clear hsr hsp SRC
            have c0 := HR.out.c0 k q
            have c1 := HR.out.c1 k q
            have c2 := HR.out.c2 k q
            have c3 := HR.out.c3 k q
            have c4 := HR.out.c4 k q
            have c5 := HR.out.c5 k q
            have c6 := HR.out.c6 k q
            have c7 := HR.out.c7 k q
            rw [HRR.out] at c0
            rw [HRR.out] at c1
            rw [HRR.out] at c2
            rw [HRR.out] at c3
            rw [HRR.out] at c4
            rw [HRR.out] at c5
            rw [HRR.out] at c6
            rw [HRR.out] at c7
            have clt := HR.out.lt
            by_cases hf : rr.s = fa
            · have g0 : (rr.s != fa) = false := by simpa using hf
              have NN := Lib.hid (N2.out hf.symm (by first | rfl | trivial) (by first | rfl | trivial))
              clear hf N1 N2 N3 AGR haa
              go_wp2_with fail
              have gr0 := fun d os => cell_regrown c0 d os
              have gr1 := fun d os => cell_regrown c1 d os
              have gr2 := fun d os => cell_regrown c2 d os
              have gr3 := fun d os => cell_regrown c3 d os
              have gr4 := fun d os => cell_regrown c4 d os
              have gr5 := fun d os => cell_regrown c5 d os
              have gr6 := fun d os => cell_regrown c6 d os
              have gr7 := fun d os => cell_regrown c7 d os
              clear c0 c1 c2 c3 c4 c5 c6 c7 clt
              refine wp_region_quiet_below (by kernel_rfl) (by kernel_rfl) ?_
              generalize hact : Act.mk _ _ = act
              repeat (refine wpQuiet_step (fun K hK => ?_); subst hact; go_simp; (first | (generalize hact : Act.mk _ _ = act; refine hK act ?_; clear hK K) | (rw [if_neg (by decide)]; go_simp; generalize hact : Act.mk _ _ = act; refine hK act ?_; clear hK K)))
              refine wpQuiet_nil ?_
              subst hact
              intro w6 hw6
              have hb6 : Below w5.heap.size w5 w6 := by
                obtain ⟨⟨dq, osq⟩, hw2⟩ := hw6
                rw [hw2]; exact below_regrown _ dq osq
              clear gr0 gr1 gr2 gr3 gr4 gr5 gr6 gr7 hw6
              replace HB := Lib.hid (HB.out.trans (hb6.mono HB.out.size))
              replace KC := Lib.hid (KC.out.below hb6)
              replace HO5 := Lib.hid (HO5.out.below hb6)
              replace HR := Lib.hid (HR.out.below hb6)
              replace HBR := Lib.hid (HBR.out.trans (hb6.mono (Nat.le_trans (Nat.le_refl w1.heap.size) HBR.out.size)))
              clear hb6
              go_wp2
              exact ⟨⟨k + 1, ms ++ pl, hb, by go_num, rfl, by omega, Lib.hid (by rw [HN5.out]; exact HL5.out), HBR, HO5, NN⟩, by simp [intOf]; omega⟩
            · have g0 : (rr.s != fa) = true := by simpa using hf
              by_cases hl : a < P.length
              · have g1 : decide ((P.length : Int) ≤ (a : Int)) = false := by simp; omega
                have g1' : decide (P.length ≤ a) = false := by simp; omega
                have AGR2 := fun w => AGR.out (nthP P a).x (nthP P a).y w
                clear hf AGR
                cases hg : agN rr (nthP P a).x (nthP P a).y with
                | true =>
                  rw [hg] at AGR2
                  have AG := Lib.hid AGR2
                  have NN := Lib.hid (N3.out a (by first | rfl | trivial) (by first | rfl | trivial) haa hl hg)
                  clear AGR2 N1 N2 N3 haa hg
                  go_wp2_with fail
                  have gr0 := fun d os => cell_regrown c0 d os
                  have gr1 := fun d os => cell_regrown c1 d os
                  have gr2 := fun d os => cell_regrown c2 d os
                  have gr3 := fun d os => cell_regrown c3 d os
                  have gr4 := fun d os => cell_regrown c4 d os
                  have gr5 := fun d os => cell_regrown c5 d os
                  have gr6 := fun d os => cell_regrown c6 d os
                  have gr7 := fun d os => cell_regrown c7 d os
                  clear c0 c1 c2 c3 c4 c5 c6 c7 clt
                  obtain ⟨bP, oP, hpp, hcp, hmp, PA⟩ := pl_at (HP0.out.below HB.out) hl
                  subst hpp
                  have p0 := PA.c0 a hl
                  have p1 := PA.c1 a hl
                  clear PA
                  have gp0 := fun d os => cell_regrown p0 d os
                  have gp1 := fun d os => cell_regrown p1 d os
                  clear p0 p1
                  have rv0 := Lib.hid (fun d os => Calls.regrown_of (AG.out (Go.Sort.grow (redrawn w5 d) os)))
                  refine wp_region_quiet_below (by kernel_rfl) (by kernel_rfl) ?_
                  generalize hact : Act.mk _ _ = act
                  repeat (refine wpQuiet_step (fun K hK => ?_); subst hact; go_simp; (first | (generalize hact : Act.mk _ _ = act; refine hK act ?_; clear hK K) | (apply Exists.intro; refine ⟨fun _ => ?_, ?_⟩; (with_reducible exact rv0.out _ _); generalize hact : Act.mk _ _ = act; refine hK act ?_; clear hK K) | (rw [if_neg (by decide)]; go_simp; generalize hact : Act.mk _ _ = act; refine hK act ?_; clear hK K)))
                  refine wpQuiet_nil ?_
                  subst hact
                  intro w6 hw6
                  have hb6 : Below w5.heap.size w5 w6 := by
                    obtain ⟨⟨dq, osq⟩, hw2⟩ := hw6
                    rw [hw2]; exact below_regrown _ dq osq
                  clear gr0 gr1 gr2 gr3 gr4 gr5 gr6 gr7 hw6
                  replace HB := Lib.hid (HB.out.trans (hb6.mono HB.out.size))
                  replace KC := Lib.hid (KC.out.below hb6)
                  replace HO5 := Lib.hid (HO5.out.below hb6)
                  replace HR := Lib.hid (HR.out.below hb6)
                  replace HBR := Lib.hid (HBR.out.trans (hb6.mono (Nat.le_trans (Nat.le_refl w1.heap.size) HBR.out.size)))
                  clear hb6
                  clear gp0 gp1 rv0
                  go_wp2
                  exact ⟨⟨k + 1, ms ++ pl, hb, by go_num, rfl, by omega, Lib.hid (by rw [HN5.out]; exact HL5.out), HBR, HO5, NN⟩, by simp [intOf]; omega⟩
                | false =>
                  rw [hg] at AGR2
                  have AG := Lib.hid AGR2
                  have NN := Lib.hid (N1.out (by first | rfl | trivial))
                  clear AGR2 N1 N2 N3 haa hg
                  go_wp2_with fail
                  have gr0 := fun d os => cell_regrown c0 d os
                  have gr1 := fun d os => cell_regrown c1 d os
                  have gr2 := fun d os => cell_regrown c2 d os
                  have gr3 := fun d os => cell_regrown c3 d os
                  have gr4 := fun d os => cell_regrown c4 d os
                  have gr5 := fun d os => cell_regrown c5 d os
                  have gr6 := fun d os => cell_regrown c6 d os
                  have gr7 := fun d os => cell_regrown c7 d os
                  clear c0 c1 c2 c3 c4 c5 c6 c7 clt
                  obtain ⟨bP, oP, hpp, hcp, hmp, PA⟩ := pl_at (HP0.out.below HB.out) hl
                  subst hpp
                  have p0 := PA.c0 a hl
                  have p1 := PA.c1 a hl
                  clear PA
                  have gp0 := fun d os => cell_regrown p0 d os
                  have gp1 := fun d os => cell_regrown p1 d os
                  clear p0 p1
                  have rv0 := Lib.hid (fun d os => Calls.regrown_of (AG.out (Go.Sort.grow (redrawn w5 d) os)))
                  refine wp_region_quiet_below (by kernel_rfl) (by kernel_rfl) ?_
                  generalize hact : Act.mk _ _ = act
                  repeat (refine wpQuiet_step (fun K hK => ?_); subst hact; go_simp; (first | (generalize hact : Act.mk _ _ = act; refine hK act ?_; clear hK K) | (apply Exists.intro; refine ⟨fun _ => ?_, ?_⟩; (with_reducible exact rv0.out _ _); generalize hact : Act.mk _ _ = act; refine hK act ?_; clear hK K) | (rw [if_neg (by decide)]; go_simp; generalize hact : Act.mk _ _ = act; refine hK act ?_; clear hK K)))
                  refine wpQuiet_nil ?_
                  subst hact
                  intro w6 hw6
                  have hb6 : Below w5.heap.size w5 w6 := by
                    obtain ⟨⟨dq, osq⟩, hw2⟩ := hw6
                    rw [hw2]; exact below_regrown _ dq osq
                  clear gr0 gr1 gr2 gr3 gr4 gr5 gr6 gr7 hw6
                  replace HB := Lib.hid (HB.out.trans (hb6.mono HB.out.size))
                  replace KC := Lib.hid (KC.out.below hb6)
                  replace HO5 := Lib.hid (HO5.out.below hb6)
                  replace HR := Lib.hid (HR.out.below hb6)
                  replace HBR := Lib.hid (HBR.out.trans (hb6.mono (Nat.le_trans (Nat.le_refl w1.heap.size) HBR.out.size)))
                  clear hb6
                  clear gp0 gp1 rv0
                  go_wp2
                  exact ⟨⟨k + 1, ms ++ pl, false, by go_num, rfl, by omega, Lib.hid (by rw [HN5.out]; exact HL5.out), HBR, HO5, NN⟩, by simp [intOf]; omega⟩
              · have g1 : decide ((P.length : Int) ≤ (a : Int)) = true := by simp; omega
                have g1' : decide (P.length ≤ a) = true := by simp; omega
                have NN := Lib.hid (N1.out (by first | rfl | trivial))
                clear hf hl N1 N2 N3 AGR haa
                go_wp2_with fail
                have gr0 := fun d os => cell_regrown c0 d os
                have gr1 := fun d os => cell_regrown c1 d os
                have gr2 := fun d os => cell_regrown c2 d os
                have gr3 := fun d os => cell_regrown c3 d os
                have gr4 := fun d os => cell_regrown c4 d os
                have gr5 := fun d os => cell_regrown c5 d os
                have gr6 := fun d os => cell_regrown c6 d os
                have gr7 := fun d os => cell_regrown c7 d os
                clear c0 c1 c2 c3 c4 c5 c6 c7 clt
                refine wp_region_quiet_below (by kernel_rfl) (by kernel_rfl) ?_
                generalize hact : Act.mk _ _ = act
                repeat (refine wpQuiet_step (fun K hK => ?_); subst hact; go_simp; (first | (generalize hact : Act.mk _ _ = act; refine hK act ?_; clear hK K) | (rw [if_neg (by decide)]; go_simp; generalize hact : Act.mk _ _ = act; refine hK act ?_; clear hK K)))
                refine wpQuiet_nil ?_
                subst hact
                intro w6 hw6
                have hb6 : Below w5.heap.size w5 w6 := by
                  obtain ⟨⟨dq, osq⟩, hw2⟩ := hw6
                  rw [hw2]; exact below_regrown _ dq osq
                clear gr0 gr1 gr2 gr3 gr4 gr5 gr6 gr7 hw6
                replace HB := Lib.hid (HB.out.trans (hb6.mono HB.out.size))
                replace KC := Lib.hid (KC.out.below hb6)
                replace HO5 := Lib.hid (HO5.out.below hb6)
                replace HR := Lib.hid (HR.out.below hb6)
                replace HBR := Lib.hid (HBR.out.trans (hb6.mono (Nat.le_trans (Nat.le_refl w1.heap.size) HBR.out.size)))
                clear hb6
                go_wp2
                exact ⟨⟨k + 1, ms ++ pl, false, by go_num, rfl, by omega, Lib.hid (by rw [HN5.out]; exact HL5.out), HBR, HO5, NN⟩, by simp [intOf]; omega⟩
          · have g : (en != 0) = true := by simpa using he
            clear hrn he AGR SRC LN RG N1 N2 N3
            go_wp2
            exact ⟨⟨k + 1, ms, hb, by go_num, rfl, by omega, Lib.hid (by have := HL.out; omega), HBR, HO, HI⟩, by simp [intOf]; omega⟩
        · have g : (ea != 0) = true := by simpa using ha
          clear hrn ha AGR SRC LN RG N1 N2 N3
          go_wp2
          exact ⟨⟨k + 1, ms, hb, by go_num, rfl, by omega, Lib.hid (by have := HL.out; omega), HBR, HO, HI⟩, by simp [intOf]; omega⟩
      · have q' : decide (k < L.length) = true := by simpa using q
        have q8' : decide (k < 8) = false := by simpa using q8
        have q9 : decide ((k : Int) < 8) = false := by simp; omega
        go_wp2
        go_ret2
        exact ⟨⟨u14, ms, hb, rfl, below_om h11 HO.out, HI.out, HL.out.2⟩, HB.out⟩
    · have q' : decide (k < L.length) = false := by simpa using q
      go_wp2
      go_ret2
      exact ⟨⟨u14, ms, hb, rfl, below_om h11 HO.out, HI.out, HL.out.2⟩, HB.out⟩
end Go.Proofs.YtidelghgjibndaaGreat
namespace Go.Proofs.YtidelghgjibndaaGreat
set_option linter.unusedVariables false
open Go.RowKit
def rdyL : List Ms := [⟨1, 256, 0, 0, 5120, 1⟩, ⟨1, 0, 256, 0, 5120, 1⟩, ⟨2, 256, 0, 2560, 5120, 1⟩, ⟨2, 0, 256, 0, 5120, 1⟩]
theorem src_rdy : srcL rdyL = [1, 2] := by
  refine asc_uniq _ _ (srcL_lt _) (by decide) fun x => ?_
  rw [mem_srcL]
  unfold rdyL
  simp only [List.mem_cons, List.not_mem_nil, or_false]
  constructor
  · rintro ⟨m, (rfl | rfl | rfl | rfl), rfl⟩ <;> simp
  · rintro (rfl | rfl)
    · exact ⟨_, .inl rfl, rfl⟩
    · exact ⟨_, .inr (.inr (.inl rfl)), rfl⟩
theorem lev_rdy : levF rdyL = (⟨5, 0, 25, 20⟩, 0) := by
  unfold levF
  rw [src_rdy]
  rfl
theorem rdy_one : rowsN ⟨1, 1, 0, 0, 0, 20, 1, 0⟩ 0 0 0 0 = ([⟨1, 256, 0, 0, 5120, 1⟩, ⟨1, 0, 256, 0, 5120, 1⟩], 0) := by kernel_rfl
theorem rdy_two : rowsN ⟨2, 1, 10, 0, 0, 20, 1, 0⟩ 0 0 0 0 = ([⟨2, 256, 0, 2560, 5120, 1⟩, ⟨2, 0, 256, 0, 5120, 1⟩], 0) := by kernel_rfl
def RdR (W : World) (v1 v2 : Value) (wr : World) : Prop := ∃ k : Nat, v2 = .int .i64 k ∧ k ≤ 2 ∧ Hid (Below W.heap.size W wr) ∧ Hid (OM W.heap.size wr v1 (rdyL.take (2 * k)))
set_option maxHeartbeats 40000000 in
set_option maxRecDepth 100000 in
theorem ready_any (w : World) : Calls Tryz.prog 8 #[] w fun e w' => e = .returned (.bool true) ∧ Below w.heap.size w w' := by
  have HB0 := Lib.hid (Below.refl w.heap.size w)
  go_enter Tryz.func8, Tryz.ntmps8
  go_wp2
  go_loopw [1, 2] (RdR w) (fun _ i _ => 2 - (intOf i).toNat)
  case atStart => exact ⟨0, rfl, by omega, Lib.hid ((Below.refl _ _).alloc (Nat.le_refl _) _), Lib.hid (World.ownsRow_lit w #[] 0 (Nat.le_refl _) (by decide) rfl)⟩
  case round =>
    obtain ⟨k, rfl, hk, HB, HO⟩ := hrel
    have hk3 : k = 0 ∨ k = 1 ∨ k = 2 := by omega
    rcases hk3 with rfl | rfl | rfl
    · have RW0 := fun w => rowsN_any ⟨1, 1, 0, 0, 0, 20, 1, 0⟩ 0 0 0 0 w (by decide) (by decide)
      rw [rdy_one] at RW0
      have RW := Lib.hid RW0
      clear RW0
      have HBW := HB
      go_wp2_with fail
      refine (RW.out _).mono ?_
      rintro e21 w21 ⟨ur, rfl, hrn, hb21⟩
      replace HB := Lib.hid (HB.out.trans (hb21.mono HB.out.size))
      replace HO := Lib.hid (HO.out.below hb21)
      clear hb21
      obtain ⟨kk, hur, hk2⟩ : ∃ kk : Nat, ur = .slice (some ⟨kk, 0, none⟩) 2 2 ∧ w21.heap[kk]? = some (.cells (msC [⟨1, 256, 0, 0, 5120, 1⟩, ⟨1, 0, 256, 0, 5120, 1⟩]).toArray 59) := by
        rcases hrn with ⟨e, _⟩ | ⟨kk, _, e, _, h2⟩
        · cases e
        · exact ⟨kk, e, h2⟩
      subst hur
      clear hrn RW
      have HK2 := Lib.hid hk2
      clear hk2
      have OL := Lib.hid (World.ownsRow.lt HO.out)
      go_wp2_with (at_builtin; refine Halt.mk ?_)
      unfold Halt
      refine wpList_oml rfl (.tmp 25) (.tmp 26) rfl w.heap.size u1 (rdyL.take 0) rfl w21 HO.out kk [⟨1, 256, 0, 0, 5120, 1⟩, ⟨1, 0, 256, 0, 5120, 1⟩] rfl HK2.out (by decide) HB.out.size ?_
      intro u2 w5 ho5 hg5 hat5
      clear hat5 HK2
      have HB5 := Lib.hid (below_grown HB.out hg5 HB.out.size fun k hk => (OL.out k hk).1)
      clear hg5
      have HO5 := Lib.hid (show OM w.heap.size w5 u2 (rdyL.take 2) from ho5)
      obtain ⟨g5, cap5, hu2⟩ := Go.Joins.ownsRow_form ho5 (by decide)
      clear ho5
      obtain ⟨N5, hN5⟩ : ∃ N, (rdyL.take 0 ++ ([⟨1, 256, 0, 0, 5120, 1⟩, ⟨1, 0, 256, 0, 5120, 1⟩] : List Ms)).length = N := ⟨_, rfl⟩
      rw [hN5] at hu2
      clear hN5
      subst hu2
      go_wp2
      exact ⟨⟨1, by go_num, by omega, HB5, HO5⟩, by simp [intOf]⟩
    · have RW0 := fun w => rowsN_any ⟨2, 1, 10, 0, 0, 20, 1, 0⟩ 0 0 0 0 w (by decide) (by decide)
      rw [rdy_two] at RW0
      have RW := Lib.hid RW0
      clear RW0
      have HBW := HB
      go_wp2_with fail
      refine (RW.out _).mono ?_
      rintro e21 w21 ⟨ur, rfl, hrn, hb21⟩
      replace HB := Lib.hid (HB.out.trans (hb21.mono HB.out.size))
      replace HO := Lib.hid (HO.out.below hb21)
      clear hb21
      obtain ⟨kk, hur, hk2⟩ : ∃ kk : Nat, ur = .slice (some ⟨kk, 0, none⟩) 2 2 ∧ w21.heap[kk]? = some (.cells (msC [⟨2, 256, 0, 2560, 5120, 1⟩, ⟨2, 0, 256, 0, 5120, 1⟩]).toArray 59) := by
        rcases hrn with ⟨e, _⟩ | ⟨kk, _, e, _, h2⟩
        · cases e
        · exact ⟨kk, e, h2⟩
      subst hur
      clear hrn RW
      have HK2 := Lib.hid hk2
      clear hk2
      have OL := Lib.hid (World.ownsRow.lt HO.out)
      go_wp2_with (at_builtin; refine Halt.mk ?_)
      unfold Halt
      refine wpList_oml rfl (.tmp 25) (.tmp 26) rfl w.heap.size u1 (rdyL.take 2) rfl w21 HO.out kk [⟨2, 256, 0, 2560, 5120, 1⟩, ⟨2, 0, 256, 0, 5120, 1⟩] rfl HK2.out (by decide) HB.out.size ?_
      intro u2 w5 ho5 hg5 hat5
      clear hat5 HK2
      have HB5 := Lib.hid (below_grown HB.out hg5 HB.out.size fun k hk => (OL.out k hk).1)
      clear hg5
      have HO5 := Lib.hid (show OM w.heap.size w5 u2 (rdyL.take 4) from ho5)
      obtain ⟨g5, cap5, hu2⟩ := Go.Joins.ownsRow_form ho5 (by decide)
      clear ho5
      obtain ⟨N5, hN5⟩ : ∃ N, (rdyL.take 2 ++ ([⟨2, 256, 0, 2560, 5120, 1⟩, ⟨2, 0, 256, 0, 5120, 1⟩] : List Ms)).length = N := ⟨_, rfl⟩
      rw [hN5] at hu2
      clear hN5
      subst hu2
      go_wp2
      exact ⟨⟨2, by go_num, by omega, HB5, HO5⟩, by simp [intOf]⟩
    · have LV := Lib.hid fun w h => lev_any rdyL u1 w h
      rw [lev_rdy] at LV
      unfold boxV at LV
      simp only at LV
      have HO2 := Lib.hid (show OM w.heap.size wr u1 rdyL from HO.out)
      go_wp2_with fail
      refine (LV.out _ HO2.out.lst).mono ?_
      rintro e41 w41 ⟨rfl, hb41⟩
      replace HB := Lib.hid (HB.out.trans (hb41.mono HB.out.size))
      clear hb41
      go_wp2
      go_ret
      exact ⟨rfl, HB.out.alloc HB.out.size _⟩
end Go.Proofs.YtidelghgjibndaaGreat
namespace Go.Proofs.YtidelghgjibndaaGreat
set_option linter.unusedVariables false
open Go.RowKit
theorem pts_take {l : List Pt} {b o : Nat} {w : World} (h : PtsAt l b o w) (n : Nat) : PtsAt (l.take n) b o w := by
  have e : ∀ i, i < (l.take n).length → i < l.length ∧ nthP (l.take n) i = nthP l i := fun i hi => by
    rw [List.length_take] at hi
    refine ⟨by omega, ?_⟩
    unfold nthP
    rw [List.getD_eq_getElem?_getD, List.getD_eq_getElem?_getD, List.getElem?_take, if_pos (by omega)]
  exact ⟨h.lt, fun i hi => by rw [(e i hi).2]; exact h.c0 i (e i hi).1, fun i hi => by rw [(e i hi).2]; exact h.c1 i (e i hi).1⟩
/-- the path, cut -/
theorem path_cut {Q : List Pt} {pp : Option Addr} {capp : Nat} {w : World} (h : PlAt Q (.slice pp Q.length capp) w) (h30 : 30 < Q.length) : PlAt (Q.take 30) (.slice pp 30 capp) w ∧ 30 ≤ capp := by
  have hl : (Q.take 30).length = 30 := by rw [List.length_take]; omega
  rcases h with ⟨e, rfl⟩ | ⟨b, o, cap, e, h2, h3, h4⟩
  · simp at h30
  · injection e with e1 e2 e3
    subst e1 e3
    exact ⟨.inr ⟨b, o, capp, by rw [hl], by omega, h3, pts_take h4 30⟩, by omega⟩
theorem pl_cap {Q : List Pt} {pp : Option Addr} {capp : Nat} {w : World} (h : PlAt Q (.slice pp Q.length capp) w) : Q.length ≤ capp := by
  rcases h with ⟨e, rfl⟩ | ⟨b, o, cap, e, h2, h3, h4⟩
  · simp
  · injection e with e1 e2 e3
    subst e3
    exact h2
end Go.Proofs.YtidelghgjibndaaGreat
namespace Go.Proofs.YtidelghgjibndaaGreat
set_option linter.unusedVariables false
open Go.RowKit
def nsz (n : Int) : Int := if n < 0 then wrap64 (-n) else n
theorem nsz_any (n : Int) (w : World) : Calls Tryz.prog 16 #[.int .i64 n] w fun e w' => e = .returned (.int .i64 (nsz n)) ∧ w = w' := by
  have E0 : nsz n = if n < 0 then wrap64 (-n) else n := rfl
  generalize nsz n = q at *
  by_cases h : n < 0
  · have g : decide (n < 0) = true := by simpa using h
    have E := Lib.hid (E0.trans (if_pos h))
    clear E0 h
    go_enter Tryz.func16, Tryz.ntmps16
    go_wp2
    go_ret
    exact ⟨ret_int E.out.symm, rfl⟩
  · have g : decide (n < 0) = false := by simpa using h
    have E := Lib.hid (E0.trans (if_neg h))
    clear E0 h
    go_enter Tryz.func16, Tryz.ntmps16
    go_wp2
    go_ret
    exact ⟨ret_int E.out.symm, rfl⟩
theorem nsz_small {n : Int} (h0 : -9223372036854775807 ≤ n) (h1 : n ≤ 9223372036854775807) : nsz n = if n < 0 then -n else n := by
  unfold nsz
  split
  · unfold wrap64; omega
  · rfl
theorem nsz_le {n d : Int} (h0 : -9223372036854775807 ≤ n) (h1 : n ≤ 9223372036854775807) : nsz n ≤ d ↔ (n ≤ d ∧ -n ≤ d) := by
  rw [nsz_small h0 h1]
  split <;> omega
theorem nsz_below (n : Int) (w : World) : Calls Tryz.prog 16 #[.int .i64 n] w fun e w' => e = .returned (.int .i64 (nsz n)) ∧ Below w.heap.size w w' := (nsz_any n w).mono fun e w' ⟨a, b⟩ => ⟨a, by rw [← b]; exact Below.refl _ _⟩
end Go.Proofs.YtidelghgjibndaaGreat
namespace Go.Proofs.YtidelghgjibndaaGreat.S44
set_option linter.unusedVariables false
open Go.RowKit
theorem mul_abs {x y X Y : Int} (h1 : -X ≤ x) (h2 : x ≤ X) (h3 : -Y ≤ y) (h4 : y ≤ Y) : -(X * Y) ≤ x * y ∧ x * y ≤ X * Y := by
  have a := Int.mul_nonneg (show 0 ≤ X - x by omega) (show 0 ≤ Y + y by omega)
  have b := Int.mul_nonneg (show 0 ≤ X + x by omega) (show 0 ≤ Y - y by omega)
  have c := Int.mul_nonneg (show 0 ≤ X - x by omega) (show 0 ≤ Y - y by omega)
  have d := Int.mul_nonneg (show 0 ≤ X + x by omega) (show 0 ≤ Y + y by omega)
  have e1 : (X - x) * (Y + y) + (X + x) * (Y - y) = 2 * (X * Y) - 2 * (x * y) := by grind
  have e2 : (X - x) * (Y - y) + (X + x) * (Y + y) = 2 * (X * Y) + 2 * (x * y) := by grind
  omega
/-- a measurement whose numbers are small enough for the corners -/
structure EdM (m : Ms) : Prop where
  a0 : -256 ≤ m.a
  a1 : m.a ≤ 256
  b0 : -256 ≤ m.b
  b1 : m.b ≤ 256
  z0 : -4294967296 ≤ m.z
  z1 : m.z ≤ 4294967296
  d0 : 0 ≤ m.d
  d1 : m.d ≤ 8589934592
theorem OkM.ed {m : Ms} (h : OkM m) : EdM m := ⟨h.a0, h.a1, h.b0, h.b1, h.z0, h.z1, h.d0, by have := h.d1; omega⟩
structure SmC (c : Int) : Prop where
  lo : -12884901888 ≤ c
  hi : c ≤ 12884901888
theorem edge_sm {m : Ms} (h : EdM m) (s : Bool) : SmC (edgeC m s) := by
  have := h.z0
  have := h.z1
  have := h.d0
  have := h.d1
  unfold edgeC
  cases s
  · exact ⟨by show -12884901888 ≤ m.z - m.d; omega, by show m.z - m.d ≤ 12884901888; omega⟩
  · exact ⟨by show -12884901888 ≤ m.z + m.d; omega, by show m.z + m.d ≤ 12884901888; omega⟩
/-- a corner whose numbers are small enough -/
structure SmP (p : Cr) : Prop where
  x0 : -6597069766656 ≤ p.x
  x1 : p.x ≤ 6597069766656
  y0 : -6597069766656 ≤ p.y
  y1 : p.y ≤ 6597069766656
  d0 : 0 ≤ p.d
  d1 : p.d ≤ 131072
theorem cross_sm {m n : Ms} (hm : EdM m) (hn : EdM n) {c e : Int} (hc : SmC c) (he : SmC e) : SmP (crossC m n c e) := by
  have p1 := mul_abs (X := 12884901888) (Y := 256) hc.lo hc.hi hn.b0 hn.b1
  have p2 := mul_abs (X := 12884901888) (Y := 256) he.lo he.hi hm.b0 hm.b1
  have p3 := mul_abs (X := 256) (Y := 12884901888) hm.a0 hm.a1 he.lo he.hi
  have p4 := mul_abs (X := 256) (Y := 12884901888) hn.a0 hn.a1 hc.lo hc.hi
  have p5 := mul_abs (X := 256) (Y := 256) hm.a0 hm.a1 hn.b0 hn.b1
  have p6 := mul_abs (X := 256) (Y := 256) hn.a0 hn.a1 hm.b0 hm.b1
  unfold crossC detM
  split
  · constructor <;> simp only <;> omega
  · constructor <;> simp only <;> omega
theorem edges_any (m : Ms) (w : World) (h : EdM m) :
    Calls Tryz.prog 68 #[.agg #[.int .i64 m.s, .int .i64 m.a, .int .i64 m.b, .int .i64 m.z, .int .i64 m.d, .int .i64 m.w]] w
      fun e w' => e = .returned (.agg #[.int .i64 m.a, .int .i64 m.b, .int .i64 (edgeC m false), .int .i64 m.a, .int .i64 m.b, .int .i64 (edgeC m true)]) ∧ Below w.heap.size w w' := by
  have z0 := h.z0
  have z1 := h.z1
  have d0 := h.d0
  have d1 := h.d1
  have E1 := Lib.hid (show edgeC m false = m.z - m.d from rfl)
  have E2 := Lib.hid (show edgeC m true = m.z + m.d from rfl)
  clear h
  generalize edgeC m false = c at *
  generalize edgeC m true = e at *
  obtain ⟨s, a, b, z, d, t⟩ := m
  simp only at z0 z1 d0 d1 E1 E2 ⊢
  go_enter Tryz.func68, Tryz.ntmps68
  go_wp2
  refine bodyPost_ret (v := .agg #[.int .i64 a, .int .i64 b, .int .i64 (z - d), .int .i64 a, .int .i64 b, .int .i64 (z + d)]) (by simp [results, Tryz.results68, go_sem]) rfl ⟨by rw [E1.out, E2.out], ?_⟩
  exact ((Below.refl w.heap.size w).alloc (by simp) _).alloc (by simp) _
theorem below_set3 {B n : Nat} {w w1 : World} (h : Below B w w1) (hB : B ≤ n) (u v x : Value) : Below B w (((w1.setCell ⟨n, 0, none⟩ u).setCell ⟨n, 1, none⟩ v).setCell ⟨n, 2, none⟩ x) :=
  ((h.setCell (p := ⟨n, 0, none⟩) hB u).setCell (p := ⟨n, 1, none⟩) hB v).setCell (p := ⟨n, 2, none⟩) hB x
/-- what meet gives -/
def meetF (m n : Ms) (c e : Int) : Cr × Bool := if detM m n = 0 then (⟨0, 0, 0⟩, false) else (crossC m n c e, true)
set_option maxHeartbeats 1000000 in
theorem meet_any (m n : Ms) (c e : Int) (w : World) (hm : EdM m) (hn : EdM n) (hc : SmC c) (he : SmC e) :
    Calls Tryz.prog 69 #[.agg #[.int .i64 m.a, .int .i64 m.b, .int .i64 c], .agg #[.int .i64 n.a, .int .i64 n.b, .int .i64 e]] w
      fun r w' => r = .returned (.tuple #[.agg #[.int .i64 (meetF m n c e).1.x, .int .i64 (meetF m n c e).1.y, .int .i64 (meetF m n c e).1.d], .bool (meetF m n c e).2]) ∧ Below w.heap.size w w' := by
  have p1 := mul_abs (X := 12884901888) (Y := 256) hc.lo hc.hi hn.b0 hn.b1
  have p2 := mul_abs (X := 12884901888) (Y := 256) he.lo he.hi hm.b0 hm.b1
  have p3 := mul_abs (X := 256) (Y := 12884901888) hm.a0 hm.a1 he.lo he.hi
  have p4 := mul_abs (X := 256) (Y := 12884901888) hn.a0 hn.a1 hc.lo hc.hi
  have p5 := mul_abs (X := 256) (Y := 256) hm.a0 hm.a1 hn.b0 hn.b1
  have p6 := mul_abs (X := 256) (Y := 256) hn.a0 hn.a1 hm.b0 hm.b1
  have E0 : meetF m n c e = if detM m n = 0 then (⟨0, 0, 0⟩, false) else (crossC m n c e, true) := rfl
  have ED : detM m n = m.a * n.b - n.a * m.b := rfl
  have EC : crossC m n c e = if detM m n < 0 then ⟨-(c * n.b - e * m.b), -(m.a * e - n.a * c), -detM m n⟩ else ⟨c * n.b - e * m.b, m.a * e - n.a * c, detM m n⟩ := rfl
  rw [ED] at E0 EC
  clear ED hm hn hc he
  generalize crossC m n c e = C at *
  generalize meetF m n c e = M at *
  obtain ⟨ms, a, b, mz, md, mw⟩ := m
  obtain ⟨ns, a', b', nz, nd, nw⟩ := n
  simp only at p1 p2 p3 p4 p5 p6 E0 EC ⊢
  obtain ⟨p10, p11⟩ := p1
  obtain ⟨p20, p21⟩ := p2
  obtain ⟨p30, p31⟩ := p3
  obtain ⟨p40, p41⟩ := p4
  obtain ⟨p50, p51⟩ := p5
  obtain ⟨p60, p61⟩ := p6
  have s1 : IntKind.i64.wrap (c * b') = c * b' := IntWalk.i64_in _ (by omega)
  have s2 : IntKind.i64.wrap (e * b) = e * b := IntWalk.i64_in _ (by omega)
  have s3 : IntKind.i64.wrap (a * e) = a * e := IntWalk.i64_in _ (by omega)
  have s4 : IntKind.i64.wrap (a' * c) = a' * c := IntWalk.i64_in _ (by omega)
  have s5 : IntKind.i64.wrap (c * b' - e * b) = c * b' - e * b := IntWalk.i64_in _ (by omega)
  have s6 : IntKind.i64.wrap (a * e - a' * c) = a * e - a' * c := IntWalk.i64_in _ (by omega)
  by_cases hz : a * b' - a' * b = 0
  · have g : (a * b' - a' * b == 0) = true := by simpa using hz
    have E := Lib.hid (E0.trans (if_pos hz))
    clear hz E0 EC
    go_enter Tryz.func69, Tryz.ntmps69
    go_wp2
    go_quiet (fail)
    clear s1 s2 s3 s4 s5 s6
    go_wp2
    refine bodyPost_ret (v := .tuple #[.agg #[.int .i64 0, .int .i64 0, .int .i64 0], .bool false]) (by simp [results, Tryz.results69, go_sem]) rfl ⟨by rw [E.out], ?_⟩
    exact below_set3 (below_drewN (((Below.refl w.heap.size w).alloc (by simp) _).alloc (by simp) _ |>.alloc (by simp; try omega) _) _) (by omega) _ _ _
  · have g : (a * b' - a' * b == 0) = false := by simpa using hz
    by_cases hn : a * b' - a' * b < 0
    · have g2 : decide (a * b' - a' * b < 0) = true := by simpa using hn
      have E := Lib.hid (E0.trans (if_neg hz))
      have EE := Lib.hid (EC.trans (if_pos hn))
      clear hz E0 EC hn
      go_enter Tryz.func69, Tryz.ntmps69
      go_wp2
      go_quiet (fail)
      clear s1 s2 s3 s4 s5 s6
      go_wp2
      refine bodyPost_ret (v := .tuple #[.agg #[.int .i64 (-(c * b' - e * b)), .int .i64 (-(a * e - a' * c)), .int .i64 (-(a * b' - a' * b))], .bool true]) (by simp [results, Tryz.results69, go_sem]) rfl ⟨by rw [E.out, EE.out], ?_⟩
      exact below_set3 (below_drewN (((Below.refl w.heap.size w).alloc (by simp) _).alloc (by simp) _ |>.alloc (by simp; try omega) _) _) (by omega) _ _ _
    · have g2 : decide (a * b' - a' * b < 0) = false := by simpa using hn
      have E := Lib.hid (E0.trans (if_neg hz))
      have EE := Lib.hid (EC.trans (if_neg hn))
      clear hz E0 EC hn
      go_enter Tryz.func69, Tryz.ntmps69
      go_wp2
      go_quiet (fail)
      clear s1 s2 s3 s4 s5 s6
      go_wp2
      refine bodyPost_ret (v := .tuple #[.agg #[.int .i64 (c * b' - e * b), .int .i64 (a * e - a' * c), .int .i64 (a * b' - a' * b)], .bool true]) (by simp [results, Tryz.results69, go_sem]) rfl ⟨by rw [E.out, EE.out], ?_⟩
      exact below_set3 (below_drewN (((Below.refl w.heap.size w).alloc (by simp) _).alloc (by simp) _ |>.alloc (by simp; try omega) _) _) (by omega) _ _ _
end Go.Proofs.YtidelghgjibndaaGreat.S44
namespace Go.Proofs.YtidelghgjibndaaGreat.S44
set_option linter.unusedVariables false
open Go.RowKit
def inB (p : Cr) (m : Ms) : Bool := decide (absI (gI m p.x p.y p.d) ≤ m.d * p.d)
theorem inB_iff {p : Cr} {m : Ms} : inB p m = true ↔ In1 m p.x p.y p.d := by
  unfold inB absI
  rw [decide_eq_true_iff]
  constructor
  · intro h
    split at h
    · exact ⟨by omega, by omega⟩
    · exact ⟨by omega, by omega⟩
  · rintro ⟨h1, h2⟩
    split <;> omega
def holdsB (l : List Ms) (p : Cr) : Bool := l.all (inB p)
theorem holdsB_iff {l : List Ms} {p : Cr} : holdsB l p = true ↔ In l p.x p.y p.d := by
  unfold holdsB
  rw [List.all_eq_true]
  exact ⟨fun h m hm => inB_iff.1 (h m hm), fun h m hm => inB_iff.2 (h m hm)⟩
def HoldR (l : List Ms) (p : Cr) (w : World) (v : Value) (wr : World) : Prop := ∃ k : Nat, v = .int .i64 k ∧ k ≤ l.length ∧ Hid (∀ i, i < k → inB p (nth l i) = true) ∧ Below w.heap.size w wr
set_option maxHeartbeats 2000000 in
theorem holds_some (l : List Ms) (p : Cr) (b o cap : Nat) (w : World) (h : MsAt l b o w) (hc : l.length ≤ cap) (hm : cap ≤ 9223372036854775807) (he : ∀ m ∈ l, EdM m) (hp : SmP p) :
    Calls Tryz.prog 70 #[.slice (some ⟨b, o, none⟩) l.length cap, .agg #[.int .i64 p.x, .int .i64 p.y, .int .i64 p.d]] w fun e w' => e = .returned (.bool (holdsB l p)) ∧ Below w.heap.size w w' := by
  have H := Lib.hid h
  have hlt := h.lt
  have HE := Lib.hid he
  have HP := Lib.hid hp
  clear h he hp
  go_enter Tryz.func70, Tryz.ntmps70
  go_wp2
  generalize hw0 : w.alloc (.cells #[.int .i64 p.x, .int .i64 p.y, .int .i64 p.d] 133) = w0 at *
  have y0 : w0.cell? ⟨w.heap.size, 0, none⟩ = some (.int .i64 p.x) := by rw [← hw0, World.cell?_alloc_at _ _ _ _ rfl]; rfl
  have y1 : w0.cell? ⟨w.heap.size, 1, none⟩ = some (.int .i64 p.y) := by rw [← hw0, World.cell?_alloc_at _ _ _ _ rfl]; rfl
  have y2 : w0.cell? ⟨w.heap.size, 2, none⟩ = some (.int .i64 p.d) := by rw [← hw0, World.cell?_alloc_at _ _ _ _ rfl]; rfl
  have hs0 : w.heap.size < w0.heap.size := by rw [← hw0]; simp
  have hb0 : Below w.heap.size w w0 := by rw [← hw0]; exact (Below.refl _ _).alloc (Nat.le_refl _) _
  have Y0 := Lib.hid y0
  have Y1 := Lib.hid y1
  have Y2 := Lib.hid y2
  have HB0 := Lib.hid hb0
  clear hw0 y0 y1 y2 hb0
  go_loopw [9] (HoldR l p w0) (fun i _ => l.length - (intOf i).toNat)
  case atStart => exact ⟨0, rfl, Nat.zero_le _, Lib.hid fun i hi => absurd hi (by omega), Below.refl _ _⟩
  case round =>
    obtain ⟨k, rfl, hk, hok, hbr⟩ := hrel
    have HB := Lib.hid hbr
    by_cases q : k < l.length
    · have q' : decide (k < l.length) = true := by simpa using q
      have M := H.out.keep (HB0.out.trans (hbr.mono HB0.out.size)) hlt
      have x0 := (hbr.cell (p := ⟨w.heap.size, 0, none⟩) hs0).trans Y0.out
      have x1 := (hbr.cell (p := ⟨w.heap.size, 1, none⟩) hs0).trans Y1.out
      have x2 := (hbr.cell (p := ⟨w.heap.size, 2, none⟩) hs0).trans Y2.out
      have hsr : w.heap.size < wr.heap.size := Nat.lt_of_lt_of_le hs0 hbr.size
      have c0 := M.c0 k q
      have c1 := M.c1 k q
      have c2 := M.c2 k q
      have c3 := M.c3 k q
      have c4 := M.c4 k q
      have c5 := M.c5 k q
      have ed := HE.out _ (nth_mem q)
      have hp := HP.out
      have EV := Lib.hid (show inB p (nth l k) = decide (absI ((nth l k).a * p.x + (nth l k).b * p.y - (nth l k).z * p.d) ≤ (nth l k).d * p.d) from rfl)
      have MEM := Lib.hid (nth_mem q)
      clear M hbr
      obtain ⟨p10, p11⟩ := mul_abs (X := 256) (Y := 6597069766656) ed.a0 ed.a1 hp.x0 hp.x1
      obtain ⟨p20, p21⟩ := mul_abs (X := 256) (Y := 6597069766656) ed.b0 ed.b1 hp.y0 hp.y1
      have d0 := hp.d0
      have d1 := hp.d1
      obtain ⟨p30, p31⟩ := mul_abs (X := 4294967296) (Y := 131072) ed.z0 ed.z1 (by omega) d1
      have dd0 := ed.d0
      have dd1 := ed.d1
      obtain ⟨p40, p41⟩ := mul_abs (X := 8589934592) (Y := 131072) (x := (nth l k).d) (by omega) dd1 (by omega) d1
      clear ed hp
      generalize hN : nth l k = m at *
      have HN := Lib.hid hN
      clear hN
      obtain ⟨ms, ma, mb, mz, md, mw⟩ := m
      obtain ⟨px, py, pd⟩ := p
      simp only at *
      have s1 : IntKind.i64.wrap (ma * px) = ma * px := IntWalk.i64_in _ (by omega)
      have s2 : IntKind.i64.wrap (mb * py) = mb * py := IntWalk.i64_in _ (by omega)
      have s3 : IntKind.i64.wrap (mz * pd) = mz * pd := IntWalk.i64_in _ (by omega)
      have s4 : IntKind.i64.wrap (md * pd) = md * pd := IntWalk.i64_in _ (by omega)
      have s5 : IntKind.i64.wrap (ma * px + mb * py) = ma * px + mb * py := IntWalk.i64_in _ (by omega)
      have s6 : IntKind.i64.wrap (ma * px + mb * py - mz * pd) = ma * px + mb * py - mz * pd := IntWalk.i64_in _ (by omega)
      have AB := Lib.hid fun w => abs_any (ma * px + mb * py - mz * pd) w (by omega) (by omega)
      generalize absI (ma * px + mb * py - mz * pd) = v at *
      by_cases hv : v ≤ md * pd
      · have g : decide (md * pd < v) = false := by simp; omega
        have EE := Lib.hid (EV.out.trans (decide_eq_true hv))
        clear hv
        go_wp2_with fail
        go_quiet ((go_at_call 43; first | exact quiet_left (AB.out _) | exact quiet_add_left (AB.out _)))
        clear s1 s2 s3 s4 s5 s6
        go_wp2
        go_roundw
        case rel =>
          refine ⟨k + 1, by go_num, by omega, Lib.hid fun i hi => ?_, HB.out.trans ((below_drewN ((Below.refl _ _).alloc (Nat.le_refl _) _) _).mono HB.out.size)⟩
          by_cases e : i = k
          · rw [e, HN.out]; exact EE.out
          · exact hok.out i (by omega)
        case measure => simp [intOf]; omega
      · have g : decide (md * pd < v) = true := by simp; omega
        have EE := Lib.hid (EV.out.trans (decide_eq_false hv))
        clear hv
        go_wp2_with fail
        go_quiet ((go_at_call 43; first | exact quiet_left (AB.out _) | exact quiet_add_left (AB.out _)))
        clear s1 s2 s3 s4 s5 s6
        go_wp2
        go_ret
        refine ⟨ret_b ?_, HB0.out.trans ((HB.out.trans ((below_drewN ((Below.refl _ _).alloc (Nat.le_refl _) _) _).mono HB.out.size)).mono HB0.out.size)⟩
        cases hx : holdsB l ⟨px, py, pd⟩
        · rfl
        · unfold holdsB at hx
          have := List.all_eq_true.1 hx _ MEM.out
          rw [EE.out] at this
          cases this
    · go_wp2
      go_ret
      refine ⟨ret_b ?_, HB0.out.trans (HB.out.mono HB0.out.size)⟩
      symm
      unfold holdsB
      refine List.all_eq_true.2 fun m hm => ?_
      obtain ⟨i, hi, rfl⟩ := List.getElem_of_mem hm
      rw [← nth_eq hi]
      exact hok.out i (by omega)
theorem holds_nil (p : Cr) (w : World) :
    Calls Tryz.prog 70 #[.slice none 0 0, .agg #[.int .i64 p.x, .int .i64 p.y, .int .i64 p.d]] w fun e w' => e = .returned (.bool true) ∧ Below w.heap.size w w' := by
  go_enter Tryz.func70, Tryz.ntmps70
  go_wp2
  go_loop [9] (fun v => v = .int .i64 0) (fun _ => 0)
  case atStart => rfl
  case round =>
    subst hrel
    go_wp2
    go_ret
    exact ⟨rfl, (Below.refl _ _).alloc (Nat.le_refl _) _⟩
theorem holds_any (l : List Ms) (p : Cr) (v : Value) (w : World) (h : LstAt l v w) (he : ∀ m ∈ l, EdM m) (hp : SmP p) :
    Calls Tryz.prog 70 #[v, .agg #[.int .i64 p.x, .int .i64 p.y, .int .i64 p.d]] w fun e w' => e = .returned (.bool (holdsB l p)) ∧ Below w.heap.size w w' := by
  rcases h with ⟨rfl, rfl⟩ | ⟨b, o, cap, rfl, h2, h3, h4⟩
  · exact holds_nil p w
  · exact holds_some l p b o cap w h4 h2 h3 he hp
end Go.Proofs.YtidelghgjibndaaGreat.S44
namespace Go.Proofs.YtidelghgjibndaaGreat.S44
set_option linter.unusedVariables false
open Go.RowKit
def pairsUpto (l : List Ms) (i : Nat) : List (Ms × Ms) := (List.range i).flatMap fun k => (l.take k).map fun n => (nth l k, n)
def pairsAt (l : List Ms) (i j : Nat) : List (Ms × Ms) := pairsUpto l i ++ (l.take j).map fun n => (nth l i, n)
def pairsL (l : List Ms) : List (Ms × Ms) := pairsUpto l l.length
theorem pairsAt_zero (l : List Ms) (i : Nat) : pairsAt l i 0 = pairsUpto l i := by unfold pairsAt; simp
theorem pairsAt_full (l : List Ms) (i : Nat) : pairsAt l i i = pairsUpto l (i + 1) := by
  unfold pairsAt pairsUpto
  rw [List.range_succ, List.flatMap_append]
  simp
theorem pairsAt_succ {l : List Ms} {i j : Nat} (h : j < l.length) : pairsAt l i (j + 1) = pairsAt l i j ++ [(nth l i, nth l j)] := by
  unfold pairsAt
  rw [take_nth h, List.map_append, ← List.append_assoc]
  rfl
theorem pairsUpto_len (l : List Ms) (i : Nat) : (pairsUpto l i).length ≤ i * l.length := by
  induction i with
  | zero => simp [pairsUpto]
  | succ i ih =>
    rw [← pairsAt_full]
    unfold pairsAt
    rw [List.length_append, List.length_map, List.length_take, Nat.succ_mul]
    omega
theorem pairsAt_len {l : List Ms} {i j : Nat} (hl : l.length ≤ 17) (hi : i < l.length) : (pairsAt l i j).length ≤ 306 := by
  unfold pairsAt
  rw [List.length_append, List.length_map, List.length_take]
  have := pairsUpto_len l i
  have h2 : i * l.length ≤ 17 * 17 := Nat.mul_le_mul (by omega) hl
  omega
/-- two measurements are a pair of the list exactly if the second stands before the first -/
theorem mem_pairs {l : List Ms} {p : Ms × Ms} : p ∈ pairsL l ↔ ∃ i j, j < i ∧ i < l.length ∧ p = (nth l i, nth l j) := by
  unfold pairsL pairsUpto
  rw [List.mem_flatMap]
  constructor
  · rintro ⟨k, hk, hp⟩
    rw [List.mem_range] at hk
    rw [List.mem_map] at hp
    obtain ⟨n, hn, rfl⟩ := hp
    obtain ⟨j, hj, rfl⟩ := List.getElem_of_mem hn
    rw [List.length_take] at hj
    refine ⟨k, j, by omega, hk, ?_⟩
    rw [List.getElem_take, nth_eq (show j < l.length by omega)]
  · rintro ⟨i, j, hj, hi, rfl⟩
    refine ⟨i, List.mem_range.2 hi, List.mem_map.2 ⟨nth l j, ?_, rfl⟩⟩
    rw [nth_eq (show j < l.length by omega)]
    rw [List.mem_take_iff_getElem]
    exact ⟨j, by omega, rfl⟩
/-- what was there and is not owned is as it was -/
structure KeepX (Own : World → Nat → Prop) (W w' : World) : Prop where
  size : W.heap.size ≤ w'.heap.size
  keep : ∀ k, k < W.heap.size → ¬ Own W k → w'.heap[k]? = W.heap[k]? ∧ ¬ Own w' k
/-- what a closure is called with: an invariant of pairs and world -/
structure InvX (l : List Ms) (b o : Nat) (Inv : List (Ms × Ms) → World → Prop) (Own : World → Nat → Prop) : Prop where
  at' : ∀ acc W, Inv acc W → MsAt l b o W
  alloc : ∀ acc W ob, Inv acc W → Inv acc (W.alloc ob) ∧ ¬ Own (W.alloc ob) W.heap.size ∧ ∀ k, k < W.heap.size → ¬ Own W k → ¬ Own (W.alloc ob) k
/-- a measurement's copy in a block of its own -/
structure CopyAt (m : Ms) (bm : Nat) (W : World) : Prop where
  lt : bm < W.heap.size
  c0 : W.cell? ⟨bm, 0, none⟩ = some (.int .i64 m.s)
  c1 : W.cell? ⟨bm, 1, none⟩ = some (.int .i64 m.a)
  c2 : W.cell? ⟨bm, 2, none⟩ = some (.int .i64 m.b)
  c3 : W.cell? ⟨bm, 3, none⟩ = some (.int .i64 m.z)
  c4 : W.cell? ⟨bm, 4, none⟩ = some (.int .i64 m.d)
  c5 : W.cell? ⟨bm, 5, none⟩ = some (.int .i64 m.w)
theorem copy_new (m : Ms) (w : World) (t : TypeId) : CopyAt m w.heap.size (w.alloc (.cells #[.int .i64 m.s, .int .i64 m.a, .int .i64 m.b, .int .i64 m.z, .int .i64 m.d, .int .i64 m.w] t)) :=
  ⟨by simp, by rw [World.cell?_alloc_at _ _ _ _ rfl]; rfl, by rw [World.cell?_alloc_at _ _ _ _ rfl]; rfl, by rw [World.cell?_alloc_at _ _ _ _ rfl]; rfl, by rw [World.cell?_alloc_at _ _ _ _ rfl]; rfl, by rw [World.cell?_alloc_at _ _ _ _ rfl]; rfl, by rw [World.cell?_alloc_at _ _ _ _ rfl]; rfl⟩
theorem CopyAt.same {m : Ms} {bm : Nat} {W w' : World} (h : CopyAt m bm W) (hk : w'.heap[bm]? = W.heap[bm]?) (hs : W.heap.size ≤ w'.heap.size) : CopyAt m bm w' :=
  ⟨Nat.lt_of_lt_of_le h.lt hs, (World.cell?_of_block (w := W) (a := ⟨bm, 0, none⟩) hk).trans h.c0, (World.cell?_of_block (w := W) (a := ⟨bm, 1, none⟩) hk).trans h.c1, (World.cell?_of_block (w := W) (a := ⟨bm, 2, none⟩) hk).trans h.c2, (World.cell?_of_block (w := W) (a := ⟨bm, 3, none⟩) hk).trans h.c3, (World.cell?_of_block (w := W) (a := ⟨bm, 4, none⟩) hk).trans h.c4, (World.cell?_of_block (w := W) (a := ⟨bm, 5, none⟩) hk).trans h.c5⟩
theorem CopyAt.below {m : Ms} {bm : Nat} {W w' : World} (h : CopyAt m bm W) (hb : Below W.heap.size W w') : CopyAt m bm w' := h.same (hb.block bm h.lt) hb.size
def R1full (l : List Ms) (Inv : List (Ms × Ms) → World → Prop) (v : Value) (W : World) : Prop := ∃ i : Nat, v = .int .i64 i ∧ i ≤ l.length ∧ Hid (Inv (pairsUpto l i) W)
def R2full (l : List Ms) (Inv : List (Ms × Ms) → World → Prop) (Own : World → Nat → Prop) (i bm : Nat) (v : Value) (W : World) : Prop := ∃ j : Nat, v = .int .i64 j ∧ j ≤ i ∧ Hid (Inv (pairsAt l i j) W) ∧ Hid (CopyAt (nth l i) bm W) ∧ Hid (¬ Own W bm)
set_option maxHeartbeats 4000000 in
theorem pairs_full (l : List Ms) (b o cap : Nat) (w0 : World) (a0 : Addr) (Inv : List (Ms × Ms) → World → Prop) (Own : World → Nat → Prop) (hl : l.length ≤ 17) (hc : l.length ≤ cap) (hm : cap ≤ 9223372036854775807)
    (hX : InvX l b o Inv Own) (h0 : Inv [] w0)
    (hstep : ∀ acc m n W, m ∈ l → n ∈ l → acc.length ≤ 306 → Inv acc W → Calls Tryz.prog 66 #[.agg #[.int .i64 m.s, .int .i64 m.a, .int .i64 m.b, .int .i64 m.z, .int .i64 m.d, .int .i64 m.w], .agg #[.int .i64 n.s, .int .i64 n.a, .int .i64 n.b, .int .i64 n.z, .int .i64 n.d, .int .i64 n.w], .pointer (some a0)] W
      fun e w' => e = .returned (.tuple #[]) ∧ Inv (acc ++ [(m, n)]) w' ∧ KeepX Own W w') :
    Calls Tryz.prog 65 #[.slice (some ⟨b, o, none⟩) l.length cap, .func (.func 66) #[] #[.pointer (some a0)]] w0 fun e w' => e = .returned (.tuple #[]) ∧ Inv (pairsL l) w' := by
  have HX := Lib.hid hX
  have HS := Lib.hid hstep
  have H0 := Lib.hid h0
  clear hX hstep h0
  go_enter Tryz.func65, Tryz.ntmps65
  go_wp2
  go_loopw [10] (R1full l Inv) (fun i _ => l.length - (intOf i).toNat)
  case atStart => exact ⟨0, rfl, Nat.zero_le _, H0⟩
  case round =>
    obtain ⟨i, rfl, hi, HI⟩ := hrel
    by_cases q : i < l.length
    · have q' : decide (i < l.length) = true := by simpa using q
      have M := HX.out.at' _ _ HI.out
      have c0 := M.c0 i q
      have c1 := M.c1 i q
      have c2 := M.c2 i q
      have c3 := M.c3 i q
      have c4 := M.c4 i q
      have c5 := M.c5 i q
      have AL := Lib.hid (HX.out.alloc _ _ (.cells #[.int .i64 (nth l i).s, .int .i64 (nth l i).a, .int .i64 (nth l i).b, .int .i64 (nth l i).z, .int .i64 (nth l i).d, .int .i64 (nth l i).w] 59) HI.out)
      have CO := Lib.hid (copy_new (nth l i) wr 59)
      have MI := Lib.hid (nth_mem q)
      have LE := Lib.hid fun j => pairsAt_len (l := l) (i := i) (j := j) hl q
      have hic : i ≤ cap := by omega
      clear M HI
      go_wp2_with fail
      generalize hbm : wr.heap.size = bm at *
      generalize hwo : wr.alloc (.cells #[.int .i64 (nth l i).s, .int .i64 (nth l i).a, .int .i64 (nth l i).b, .int .i64 (nth l i).z, .int .i64 (nth l i).d, .int .i64 (nth l i).w] 59) = wo at *
      have HBM := Lib.hid hbm
      clear hbm hwo c0 c1 c2 c3 c4 c5
      go_loopw [19] (R2full l Inv Own i bm) (fun j _ => i - (intOf j).toNat)
      case atStart => exact ⟨0, rfl, Nat.zero_le _, by rw [pairsAt_zero]; exact AL.out.1, CO, AL.out.2.1⟩
      case round =>
        obtain ⟨j, rfl, hj, HI, HC, HN⟩ := hrel
        by_cases r : j < i
        · have r' : decide (j < i) = true := by simpa using r
          have hjl : j < l.length := by omega
          have M := HX.out.at' _ _ HI.out
          have c0 := M.c0 j hjl
          have c1 := M.c1 j hjl
          have c2 := M.c2 j hjl
          have c3 := M.c3 j hjl
          have c4 := M.c4 j hjl
          have c5 := M.c5 j hjl
          have hc := HC.out
          have x0 := hc.c0
          have x1 := hc.c1
          have x2 := hc.c2
          have x3 := hc.c3
          have x4 := hc.c4
          have x5 := hc.c5
          have hbl := hc.lt
          have AL2 := Lib.hid (HX.out.alloc _ _ (.cells #[.int .i64 (nth l j).s, .int .i64 (nth l j).a, .int .i64 (nth l j).b, .int .i64 (nth l j).z, .int .i64 (nth l j).d, .int .i64 (nth l j).w] 59) HI.out)
          have ST := Lib.hid (HS.out (pairsAt l i j) (nth l i) (nth l j) _ MI.out (nth_mem hjl) (LE.out j) AL2.out.1)
          have PS := Lib.hid (pairsAt_succ (l := l) (i := i) hjl)
          clear M HI hc
          go_wp2_with (go_at_call 66; refine ST.out.mono ?_; rintro e w2 ⟨rfl, hi2, hk2⟩)
          go_roundw
          case rel =>
            have hn2 := AL2.out.2.2 bm hbl HN.out
            have hlt2 : bm < (wr.alloc (.cells #[.int .i64 (nth l j).s, .int .i64 (nth l j).a, .int .i64 (nth l j).b, .int .i64 (nth l j).z, .int .i64 (nth l j).d, .int .i64 (nth l j).w] 59)).heap.size := by simp; omega
            have hk := hk2.keep bm hlt2 hn2
            exact ⟨j + 1, by go_num, by omega, by rw [PS.out]; exact hi2, (HC.out.below ((Below.refl _ _).alloc (Nat.le_refl _) _)).same hk.1 hk2.size, hk.2⟩
          case measure => simp [intOf]; omega
        · obtain rfl : j = i := by omega
          have PF := Lib.hid (pairsAt_full l j)
          go_wp2
          go_roundw
          case rel => exact ⟨j + 1, by go_num, by omega, by rw [← PF.out]; exact HI⟩
          case measure => simp [intOf]; omega
    · obtain rfl : i = l.length := by omega
      go_wp2
      go_end0
      exact ⟨rfl, HI.out⟩
def R1cor (l : List Ms) (Inv : List (Ms × Ms) → World → Prop) (v : Value) (W : World) : Prop := ∃ i : Nat, v = .int .i64 i ∧ i ≤ l.length ∧ Hid (Inv (pairsUpto l i) W)
def R2cor (l : List Ms) (Inv : List (Ms × Ms) → World → Prop) (Own : World → Nat → Prop) (i bm : Nat) (v : Value) (W : World) : Prop := ∃ j : Nat, v = .int .i64 j ∧ j ≤ i ∧ Hid (Inv (pairsAt l i j) W) ∧ Hid (CopyAt (nth l i) bm W) ∧ Hid (¬ Own W bm)
set_option maxHeartbeats 4000000 in
theorem pairs_cor (l : List Ms) (b o cap : Nat) (w0 : World) (a0 a1 : Addr) (Inv : List (Ms × Ms) → World → Prop) (Own : World → Nat → Prop) (hl : l.length ≤ 17) (hc : l.length ≤ cap) (hm : cap ≤ 9223372036854775807)
    (hX : InvX l b o Inv Own) (h0 : Inv [] w0)
    (hstep : ∀ acc m n W, m ∈ l → n ∈ l → acc.length ≤ 306 → Inv acc W → Calls Tryz.prog 67 #[.agg #[.int .i64 m.s, .int .i64 m.a, .int .i64 m.b, .int .i64 m.z, .int .i64 m.d, .int .i64 m.w], .agg #[.int .i64 n.s, .int .i64 n.a, .int .i64 n.b, .int .i64 n.z, .int .i64 n.d, .int .i64 n.w], .pointer (some a0), .pointer (some a1)] W
      fun e w' => e = .returned (.tuple #[]) ∧ Inv (acc ++ [(m, n)]) w' ∧ KeepX Own W w') :
    Calls Tryz.prog 65 #[.slice (some ⟨b, o, none⟩) l.length cap, .func (.func 67) #[] #[.pointer (some a0), .pointer (some a1)]] w0 fun e w' => e = .returned (.tuple #[]) ∧ Inv (pairsL l) w' := by
  have HX := Lib.hid hX
  have HS := Lib.hid hstep
  have H0 := Lib.hid h0
  clear hX hstep h0
  go_enter Tryz.func65, Tryz.ntmps65
  go_wp2
  go_loopw [10] (R1cor l Inv) (fun i _ => l.length - (intOf i).toNat)
  case atStart => exact ⟨0, rfl, Nat.zero_le _, H0⟩
  case round =>
    obtain ⟨i, rfl, hi, HI⟩ := hrel
    by_cases q : i < l.length
    · have q' : decide (i < l.length) = true := by simpa using q
      have M := HX.out.at' _ _ HI.out
      have c0 := M.c0 i q
      have c1 := M.c1 i q
      have c2 := M.c2 i q
      have c3 := M.c3 i q
      have c4 := M.c4 i q
      have c5 := M.c5 i q
      have AL := Lib.hid (HX.out.alloc _ _ (.cells #[.int .i64 (nth l i).s, .int .i64 (nth l i).a, .int .i64 (nth l i).b, .int .i64 (nth l i).z, .int .i64 (nth l i).d, .int .i64 (nth l i).w] 59) HI.out)
      have CO := Lib.hid (copy_new (nth l i) wr 59)
      have MI := Lib.hid (nth_mem q)
      have LE := Lib.hid fun j => pairsAt_len (l := l) (i := i) (j := j) hl q
      have hic : i ≤ cap := by omega
      clear M HI
      go_wp2_with fail
      generalize hbm : wr.heap.size = bm at *
      generalize hwo : wr.alloc (.cells #[.int .i64 (nth l i).s, .int .i64 (nth l i).a, .int .i64 (nth l i).b, .int .i64 (nth l i).z, .int .i64 (nth l i).d, .int .i64 (nth l i).w] 59) = wo at *
      have HBM := Lib.hid hbm
      clear hbm hwo c0 c1 c2 c3 c4 c5
      go_loopw [19] (R2cor l Inv Own i bm) (fun j _ => i - (intOf j).toNat)
      case atStart => exact ⟨0, rfl, Nat.zero_le _, by rw [pairsAt_zero]; exact AL.out.1, CO, AL.out.2.1⟩
      case round =>
        obtain ⟨j, rfl, hj, HI, HC, HN⟩ := hrel
        by_cases r : j < i
        · have r' : decide (j < i) = true := by simpa using r
          have hjl : j < l.length := by omega
          have M := HX.out.at' _ _ HI.out
          have c0 := M.c0 j hjl
          have c1 := M.c1 j hjl
          have c2 := M.c2 j hjl
          have c3 := M.c3 j hjl
          have c4 := M.c4 j hjl
          have c5 := M.c5 j hjl
          have hc := HC.out
          have x0 := hc.c0
          have x1 := hc.c1
          have x2 := hc.c2
          have x3 := hc.c3
          have x4 := hc.c4
          have x5 := hc.c5
          have hbl := hc.lt
          have AL2 := Lib.hid (HX.out.alloc _ _ (.cells #[.int .i64 (nth l j).s, .int .i64 (nth l j).a, .int .i64 (nth l j).b, .int .i64 (nth l j).z, .int .i64 (nth l j).d, .int .i64 (nth l j).w] 59) HI.out)
          have ST := Lib.hid (HS.out (pairsAt l i j) (nth l i) (nth l j) _ MI.out (nth_mem hjl) (LE.out j) AL2.out.1)
          have PS := Lib.hid (pairsAt_succ (l := l) (i := i) hjl)
          clear M HI hc
          go_wp2_with (go_at_call 67; refine ST.out.mono ?_; rintro e w2 ⟨rfl, hi2, hk2⟩)
          go_roundw
          case rel =>
            have hn2 := AL2.out.2.2 bm hbl HN.out
            have hlt2 : bm < (wr.alloc (.cells #[.int .i64 (nth l j).s, .int .i64 (nth l j).a, .int .i64 (nth l j).b, .int .i64 (nth l j).z, .int .i64 (nth l j).d, .int .i64 (nth l j).w] 59)).heap.size := by simp; omega
            have hk := hk2.keep bm hlt2 hn2
            exact ⟨j + 1, by go_num, by omega, by rw [PS.out]; exact hi2, (HC.out.below ((Below.refl _ _).alloc (Nat.le_refl _) _)).same hk.1 hk2.size, hk.2⟩
          case measure => simp [intOf]; omega
        · obtain rfl : j = i := by omega
          have PF := Lib.hid (pairsAt_full l j)
          go_wp2
          go_roundw
          case rel => exact ⟨j + 1, by go_num, by omega, by rw [← PF.out]; exact HI⟩
          case measure => simp [intOf]; omega
    · obtain rfl : i = l.length := by omega
      go_wp2
      go_end0
      exact ⟨rfl, HI.out⟩
end Go.Proofs.YtidelghgjibndaaGreat.S44
namespace Go.Proofs.YtidelghgjibndaaGreat.S44
set_option linter.unusedVariables false
open Go.RowKit
def crossB (p : Ms × Ms) : Bool := p.1.a * p.2.b != p.2.a * p.1.b
def fullB (l : List Ms) : Bool := (pairsL l).any crossB
theorem crossB_iff {m n : Ms} : crossB (m, n) = true ↔ detM m n ≠ 0 := by
  unfold crossB detM
  simp only [bne_iff_ne, ne_eq]
  omega
theorem fullB_iff {l : List Ms} : fullB l = true ↔ Full l := by
  unfold fullB Full
  rw [List.any_eq_true]
  constructor
  · rintro ⟨p, hp, hc⟩
    obtain ⟨i, j, hj, hi, rfl⟩ := mem_pairs.1 hp
    exact ⟨_, nth_mem hi, _, nth_mem (by omega), crossB_iff.1 hc⟩
  · rintro ⟨m, hm, n, hn, hd⟩
    obtain ⟨i, hi, rfl⟩ := List.getElem_of_mem hm
    obtain ⟨j, hj, rfl⟩ := List.getElem_of_mem hn
    rcases Nat.lt_trichotomy i j with h | h | h
    · refine ⟨(nth l j, nth l i), mem_pairs.2 ⟨j, i, h, hj, rfl⟩, crossB_iff.2 ?_⟩
      rw [nth_eq hj, nth_eq hi, det_swap]
      omega
    · subst h
      exact absurd (show detM l[i] l[i] = 0 by unfold detM; omega) hd
    · refine ⟨(nth l i, nth l j), mem_pairs.2 ⟨i, j, h, hi, rfl⟩, crossB_iff.2 ?_⟩
      rw [nth_eq hj, nth_eq hi]
      exact hd
/-- the closure's world: the flag in block bf -/
structure FulI (w : World) (bf : Nat) (f : Bool) (W : World) : Prop where
  below : Below w.heap.size w W
  le : w.heap.size ≤ bf
  lt : bf < W.heap.size
  cell : W.cell? ⟨bf, 0, none⟩ = some (.bool f)
  frz : W.frozen? ⟨bf, 0, none⟩ = false
theorem FulI.alloc {w : World} {bf : Nat} {f : Bool} {W : World} (h : FulI w bf f W) (o : Obj) : FulI w bf f (W.alloc o) := by
  have hb := (Below.refl W.heap.size W).alloc (Nat.le_refl _) o
  have hl := h.lt
  exact ⟨h.below.alloc h.below.size o, h.le, by simp; omega, (hb.cell (p := ⟨bf, 0, none⟩) hl).trans h.cell, (hb.frozen (p := ⟨bf, 0, none⟩) hl).trans h.frz⟩
theorem FulI.store {w : World} {bf : Nat} {f : Bool} {W : World} (h : FulI w bf f W) (g : Bool) : FulI w bf g (W.setCell ⟨bf, 0, none⟩ (.bool g)) :=
  ⟨h.below.setCell (p := ⟨bf, 0, none⟩) h.le _, h.le, by have := h.lt; simpa [World.setCell] using this, World.cell?_setCell_same' W _ _ (by rw [h.cell]; rfl), by rw [World.frozen?_setCell]; exact h.frz⟩
theorem keepx_store (bf : Nat) (W : World) (o1 o2 : Obj) (v : Value) : KeepX (fun _ k => k = bf) W (((W.setCell ⟨bf, 0, none⟩ v).alloc o1).alloc o2) := by
  have hs : (W.setCell ⟨bf, 0, none⟩ v).heap.size = W.heap.size := by simp [World.setCell]
  exact ⟨by rw [World.size_alloc, World.size_alloc, hs]; omega, fun k hk hn => ⟨by
    rw [Below.heap_alloc _ _ _ (by rw [World.size_alloc, hs]; omega), Below.heap_alloc _ _ _ (by rw [hs]; exact hk), Below.heap_setCell _ _ _ _ (by simpa using hn)], hn⟩⟩
set_option maxHeartbeats 1000000 in
theorem full_fn (m n : Ms) (w W : World) (bf : Nat) (f : Bool) (h : FulI w bf f W) (hm : EdM m) (hn : EdM n) :
    Calls Tryz.prog 66 #[.agg #[.int .i64 m.s, .int .i64 m.a, .int .i64 m.b, .int .i64 m.z, .int .i64 m.d, .int .i64 m.w], .agg #[.int .i64 n.s, .int .i64 n.a, .int .i64 n.b, .int .i64 n.z, .int .i64 n.d, .int .i64 n.w], .pointer (some ⟨bf, 0, none⟩)] W
      fun e w' => e = .returned (.tuple #[]) ∧ FulI w bf (f || crossB (m, n)) w' ∧ KeepX (fun _ k => k = bf) W w' := by
  obtain ⟨p10, p11⟩ := mul_abs (X := 256) (Y := 256) hm.a0 hm.a1 hn.b0 hn.b1
  obtain ⟨p20, p21⟩ := mul_abs (X := 256) (Y := 256) hn.a0 hn.a1 hm.b0 hm.b1
  have EB : crossB (m, n) = (m.a * n.b != n.a * m.b) := rfl
  have I2 := Lib.hid fun o1 o2 => (h.alloc o1).alloc o2
  have HX := Lib.hid h
  have kc := fun o1 o2 => ((h.alloc o1).alloc o2).cell
  have kf := fun o1 o2 => ((h.alloc o1).alloc o2).frz
  have hl := h.lt
  clear hm hn h
  generalize crossB (m, n) = g at *
  obtain ⟨ms, a, b, mz, md, mw⟩ := m
  obtain ⟨ns, a', b', nz, nd, nw⟩ := n
  simp only at p10 p11 p20 p21 EB ⊢
  cases f with
  | true =>
    clear EB
    go_enter Tryz.func66, Tryz.ntmps66
    go_wp2
    go_end0
    exact ⟨rfl, ((HX.out.store _).alloc _).alloc _, keepx_store _ _ _ _ _⟩
  | false =>
    have E := EB.symm
    clear EB
    go_enter Tryz.func66, Tryz.ntmps66
    go_wp2
    go_end0
    exact ⟨rfl, ((HX.out.store _).alloc _).alloc _, keepx_store _ _ _ _ _⟩
theorem full_some (l : List Ms) (b o cap : Nat) (w : World) (h : MsAt l b o w) (hc : l.length ≤ cap) (hm : cap ≤ 9223372036854775807) (he : ∀ m ∈ l, EdM m) (hl : l.length ≤ 17) :
    Calls Tryz.prog 39 #[.slice (some ⟨b, o, none⟩) l.length cap] w fun e w' => e = .returned (.bool (fullB l)) ∧ Below w.heap.size w w' := by
  have HP := Lib.hid fun W1 (h0 : FulI w w.heap.size false W1) => pairs_full l b o cap W1 ⟨w.heap.size, 0, none⟩ (fun acc W => FulI w w.heap.size (acc.any crossB) W) (fun _ k => k = w.heap.size) hl hc hm
    ⟨fun acc W hi => h.below hi.below, fun acc W ob hi => ⟨hi.alloc ob, by have := hi.lt; show W.heap.size ≠ w.heap.size; omega, fun k _ hn => hn⟩⟩ h0
    (fun acc m n W hm hn _ hi => (full_fn m n w W w.heap.size _ hi (he m hm) (he n hn)).mono fun e w' ⟨h1, h2, h3⟩ => ⟨h1, by rw [List.any_append]; simpa using h2, h3⟩)
  have H0 := Lib.hid (show ∀ t, FulI w w.heap.size false (w.alloc (.cells #[.bool false] t)) from fun t => ⟨(Below.refl _ _).alloc (Nat.le_refl _) _, Nat.le_refl _, by simp, by rw [World.cell?_alloc_at _ _ _ _ rfl]; rfl, by go_simp⟩)
  have EF := Lib.hid (show fullB l = (pairsL l).any crossB from rfl)
  clear h he
  go_enter Tryz.func39, Tryz.ntmps39
  go_wp2_with (go_at_call 65; refine (HP.out _ (H0.out _)).mono ?_; rintro e w2 ⟨rfl, hi⟩; have hcell := hi.cell; have hbl := Lib.hid hi.below; clear hi)
  go_ret
  exact ⟨ret_b EF.out.symm, hbl.out⟩
theorem pairs_nil (F : FuncId) (cs : Array Value) (w : World) :
    Calls Tryz.prog 65 #[.slice none 0 0, .func (.func F) #[] cs] w fun e w' => e = .returned (.tuple #[]) ∧ w = w' := by
  go_enter Tryz.func65, Tryz.ntmps65
  go_wp2
  go_loop [10] (fun v => v = .int .i64 0) (fun _ => 0)
  case atStart => rfl
  case round =>
    subst hrel
    go_wp2
    go_end0
    exact ⟨rfl, rfl⟩
theorem full_nil (w : World) :
    Calls Tryz.prog 39 #[.slice none 0 0] w fun e w' => e = .returned (.bool false) ∧ Below w.heap.size w w' := by
  go_enter Tryz.func39, Tryz.ntmps39
  go_wp2_with (go_at_call 65; refine (pairs_nil _ _ _).mono ?_; rintro e w2 ⟨rfl, rfl⟩)
  go_ret
  exact ⟨rfl, (Below.refl _ _).alloc (Nat.le_refl _) _⟩
theorem full_any (l : List Ms) (v : Value) (w : World) (h : LstAt l v w) (he : ∀ m ∈ l, EdM m) (hl : l.length ≤ 17) :
    Calls Tryz.prog 39 #[v] w fun e w' => e = .returned (.bool (fullB l)) ∧ Below w.heap.size w w' := by
  rcases h with ⟨rfl, rfl⟩ | ⟨b, o, cap, rfl, h2, h3, h4⟩
  · exact full_nil w
  · exact full_some l b o cap w h4 h2 h3 he hl
end Go.Proofs.YtidelghgjibndaaGreat.S44
namespace Go.Proofs.YtidelghgjibndaaGreat.S44
set_option linter.unusedVariables false
open Go.RowKit
def crC (l : List Cr) : List Value := l.flatMap fun p => [Value.int .i64 p.x, Value.int .i64 p.y, Value.int .i64 p.d]
theorem crC_append (l k : List Cr) : crC (l ++ k) = crC l ++ crC k := by unfold crC; rw [List.flatMap_append]
theorem crC_len (l : List Cr) : (crC l).length = l.length * 3 := by
  unfold crC
  induction l with
  | nil => rfl
  | cons p r ih => simp only [List.flatMap_cons, List.length_append, List.length_cons, List.length_nil, ih]; omega
theorem crC_get : ∀ (l : List Cr) (i : Nat) (h : i < l.length), (crC l)[i * 3]? = some (.int .i64 l[i].x) ∧ (crC l)[i * 3 + 1]? = some (.int .i64 l[i].y) ∧ (crC l)[i * 3 + 2]? = some (.int .i64 l[i].d)
  | [], i, h => absurd h (by simp)
  | p :: l, 0, h => ⟨rfl, rfl, rfl⟩
  | p :: l, i + 1, h => by
    obtain ⟨a, b, c⟩ := crC_get l i (by simpa using h)
    unfold crC at *
    rw [List.flatMap_cons, show (i + 1) * 3 = i * 3 + 3 by omega]
    exact ⟨a, b, c⟩
/-- a slice of the call's own that holds these corners -/
def OC (B : Nat) (w : World) (v : Value) (l : List Cr) : Prop := w.ownsRow B 133 3 v l.length (crC l)
theorem infoCor : (Tryz.prog.info? 133).map (fun i => (i.zero, i.size, i.bytes)) = some (some (.agg #[.int .i64 0, .int .i64 0, .int .i64 0]), 3, 24) := by kernel_rfl
theorem wpList_oc {ops : Array Oper} {rest : List Oper} {o : Oper} {a : Act} {Q : Exit → Act → World → Prop} (hgd : o.guard = none) (s x : Operand)
    (ho : o.op = .call { callee := .builtin .append, args := #[s, x], argTypes := #[99, 99] })
    (B : Nat) (v : Value) (l : List Cr) (hs : a.eval s = v) (w0 : World) (h : OC B w0 v l) (T : TypeId) (p : Cr) (c : Nat)
    (hx : a.eval x = .slice (some ⟨w0.heap.size, 0, none⟩) 1 c) (hl : l.length ≤ 100000) (hB : B ≤ w0.heap.size)
    (H : ∀ v' w', OC B w' v' (l ++ [p]) → (w0.alloc (.cells #[.int .i64 p.x, .int .i64 p.y, .int .i64 p.d] T)).grownBy w' v.ownBlock → (v'.ownBlock = v.ownBlock ∨ v'.ownBlock = some (w0.heap.size + 1)) → wpList Tryz.prog ops Q rest (a.put o.dst v') w') :
    wpList Tryz.prog ops Q (o :: rest) a (w0.alloc (.cells #[.int .i64 p.x, .int .i64 p.y, .int .i64 p.d] T)) := by
  obtain ⟨i0, hi, hz0, hz1, hz2⟩ := info_parts infoCor
  refine wpList_append_own_at _ hgd s x 99 ho B 133 i0 (.agg #[.int .i64 0, .int .i64 0, .int .i64 0]) 3 24 Tryz.underlying99 hi hz0 hz1 hz2 rfl (by decide) v l.length (crC l) hs (World.ownsRow.alloc h _) ⟨w0.heap.size, 0, none⟩ 1 c (crC [p]) hx (by rw [crC_len]; rfl) ?_ ?_ (by unfold maxLen; omega) (by omega) (by simp; omega) ?_
  · intro j u hu
    have hadd : (⟨w0.heap.size, 0, none⟩ : Addr).add j = ⟨w0.heap.size, j, none⟩ := by unfold Addr.add; split <;> simp_all
    rw [hadd, World.cell?_alloc_at _ _ _ _ (by rfl)]
    unfold crC at hu
    simpa using hu
  · intro u hu
    unfold crC at hu
    simp only [List.flatMap_cons, List.flatMap_nil, List.append_nil, List.mem_cons, List.not_mem_nil, or_false] at hu
    rcases hu with rfl | rfl | rfl <;> rfl
  · intro v' w' ho' hg _ hat
    refine H v' w' (by unfold OC; rw [List.length_append, crC_append]; exact ho') hg ?_
    simpa using hat
/-- what is owned: the block of the variable, and that of the slice in it -/
def OwnC (bo : Nat) (W : World) (k : Nat) : Prop := k = bo ∨ ∃ u, W.cell? ⟨bo, 0, none⟩ = some u ∧ u.ownBlock = some k
/-- the closure's world: the list in block bl, the slice in block bo -/
structure CorI (w : World) (bl bo : Nat) (v u : Value) (C : List Cr) (W : World) : Prop where
  below : Below w.heap.size w W
  le : w.heap.size ≤ bo
  lb : bl ≤ bo
  lt : bo < W.heap.size
  lst : W.cell? ⟨bl, 0, none⟩ = some v
  cell : W.cell? ⟨bo, 0, none⟩ = some u
  frz : W.frozen? ⟨bo, 0, none⟩ = false
  own : OC (bo + 1) W u C
theorem CorI.keep {w : World} {bl bo : Nat} {v u : Value} {C : List Cr} {W w' : World} (h : CorI w bl bo v u C W) (hb : Below W.heap.size W w') : CorI w bl bo v u C w' := by
  have hl := h.lt
  refine ⟨h.below.trans (hb.mono h.below.size), h.le, h.lb, Nat.lt_of_lt_of_le hl hb.size, (hb.cell (p := ⟨bl, 0, none⟩) ?_).trans h.lst, (hb.cell (p := ⟨bo, 0, none⟩) hl).trans h.cell, (hb.frozen (p := ⟨bo, 0, none⟩) hl).trans h.frz, ?_⟩
  · have := h.lb
    show bl < W.heap.size
    omega
  · refine World.ownsRow.kept h.own (grown_of_below hb) ?_
    cases u.ownBlock <;> simp
theorem keepx_below {bo : Nat} {W w' : World} (hl : bo < W.heap.size) (hb : Below W.heap.size W w') : KeepX (OwnC bo) W w' :=
  ⟨hb.size, fun k hk hn => ⟨hb.block k hk, fun h => hn (by
    rcases h with h | ⟨u, h1, h2⟩
    · exact .inl h
    · exact .inr ⟨u, by rw [← h1]; exact (hb.cell (p := ⟨bo, 0, none⟩) hl).symm, h2⟩)⟩⟩
theorem KeepX.trans {Own : World → Nat → Prop} {a b c : World} (h : KeepX Own a b) (g : KeepX Own b c) : KeepX Own a c :=
  ⟨Nat.le_trans h.size g.size, fun k hk hn => by
    obtain ⟨h1, h2⟩ := h.keep k hk hn
    obtain ⟨g1, g2⟩ := g.keep k (Nat.lt_of_lt_of_le hk h.size) h2
    exact ⟨g1.trans h1, g2⟩⟩
theorem own_new {w : World} {bl bo : Nat} {v u : Value} {C : List Cr} {W : World} (h : CorI w bl bo v u C W) {k : Nat} (hk : W.heap.size ≤ k) : ¬ OwnC bo W k := by
  rintro (rfl | ⟨x, h1, h2⟩)
  · have := h.lt; omega
  · rw [h.cell] at h1
    obtain rfl := Option.some.inj h1
    have := (World.ownsRow.lt h.own k h2).2
    omega
theorem own_alloc {w : World} {bl bo : Nat} {v u : Value} {C : List Cr} {W : World} (h : CorI w bl bo v u C W) (o : Obj) : ¬ OwnC bo (W.alloc o) W.heap.size := by
  rintro (e | ⟨x, h1, h2⟩)
  · have := h.lt; omega
  · rw [(h.keep ((Below.refl _ _).alloc (Nat.le_refl _) o)).cell] at h1
    obtain rfl := Option.some.inj h1
    have := (World.ownsRow.lt h.own _ h2).2
    omega
/-- one corner appended and stored -/
theorem CorI.push {w : World} {bl bo : Nat} {v u u' : Value} {C : List Cr} {p : Cr} {W w5 : World} {ob : Obj} (h : CorI w bl bo v u C W) (hlb : bl ≠ bo) (hown : OC (bo + 1) w5 u' (C ++ [p])) (hg : (W.alloc ob).grownBy w5 u.ownBlock)
    (hat : u'.ownBlock = u.ownBlock ∨ u'.ownBlock = some (W.heap.size + 1)) :
    CorI w bl bo v u' (C ++ [p]) (w5.setCell ⟨bo, 0, none⟩ u') ∧ KeepX (OwnC bo) W (w5.setCell ⟨bo, 0, none⟩ u') := by
  have hb := (Below.refl W.heap.size W).alloc (Nat.le_refl _) ob
  have h2 := h.keep hb
  have hl := h.lt
  have hlb' := h.lb
  have hr : ∀ k, u.ownBlock = some k → bo + 1 ≤ k := fun k hk => (World.ownsRow.lt h.own k hk).1
  have hs := hg.size
  rw [World.size_alloc] at hs
  have hb5 : Below (bo + 1) (W.alloc ob) w5 := ⟨hg.os, hg.tape, hg.output, hg.size, fun k hk => hg.block k (by rw [World.size_alloc]; omega) (fun e => by have := hr k e.symm; omega)⟩
  have hc5 : w5.cell? ⟨bo, 0, none⟩ = some u := (hb5.cell (p := ⟨bo, 0, none⟩) (Nat.lt_succ_self bo)).trans h2.cell
  have hss : (w5.setCell ⟨bo, 0, none⟩ u').heap.size = w5.heap.size := by simp [World.setCell]
  have hcs : (w5.setCell ⟨bo, 0, none⟩ u').cell? ⟨bo, 0, none⟩ = some u' := World.cell?_setCell_same' w5 _ _ (by rw [hc5]; rfl)
  refine ⟨⟨?_, h.le, h.lb, by rw [hss]; omega, ?_, hcs, ?_, ?_⟩, by rw [hss]; omega, fun k hk hn => ⟨?_, ?_⟩⟩
  · exact (h2.below.trans (hb5.mono (by have := h.le; omega))).setCell (p := ⟨bo, 0, none⟩) h.le _
  · rw [World.cell?_setCell_far _ _ _ _ (show bo ≠ bl by omega)]
    exact (hb5.cell (p := ⟨bl, 0, none⟩) (show bl < bo + 1 by omega)).trans h2.lst
  · rw [World.frozen?_setCell]
    exact (hb5.frozen (p := ⟨bo, 0, none⟩) (Nat.lt_succ_self bo)).trans h2.frz
  · exact ownsRow_setCell_below hown (Nat.lt_succ_self bo) u'
  · have n1 : k ≠ bo := fun e => hn (.inl e)
    have n2 : some k ≠ u.ownBlock := fun e => hn (.inr ⟨u, h.cell, e.symm⟩)
    rw [Below.heap_setCell _ _ _ _ (by simpa using n1), hg.block k (by rw [World.size_alloc]; omega) n2, Below.heap_alloc _ _ _ hk]
  · rintro (e | ⟨x, h1, h3⟩)
    · exact hn (.inl e)
    · rw [hcs] at h1
      obtain rfl := Option.some.inj h1
      rcases hat with e | e
      · exact hn (.inr ⟨u, h.cell, by rw [← e]; exact h3⟩)
      · rw [e] at h3
        have := Option.some.inj h3
        omega
/-! the list -/
def pickC (R : List Ms) (m n : Ms) (s t : Bool) : List Cr := if detM m n = 0 then [] else if holdsB R (crossC m n (edgeC m s) (edgeC n t)) = true then [crossC m n (edgeC m s) (edgeC n t)] else []
def tag2 (i : Nat) : Bool := i == 1
/-- the first of the four corners of two strips -/
def crn (R : List Ms) (m n : Ms) (k : Nat) : List Cr := (List.range k).flatMap fun q => pickC R m n (tag2 (q / 2)) (tag2 (q % 2))
theorem crn_succ (R : List Ms) (m n : Ms) (k : Nat) : crn R m n (k + 1) = crn R m n k ++ pickC R m n (tag2 (k / 2)) (tag2 (k % 2)) := by
  unfold crn
  rw [List.range_succ, List.flatMap_append]
  simp
theorem pick_len (R : List Ms) (m n : Ms) (s t : Bool) : (pickC R m n s t).length ≤ 1 := by
  unfold pickC
  split
  · simp
  · split <;> simp
theorem crn_len (R : List Ms) (m n : Ms) (k : Nat) : (crn R m n k).length ≤ k := by
  induction k with
  | zero => simp [crn]
  | succ k ih =>
    rw [crn_succ, List.length_append]
    have := pick_len R m n (tag2 (k / 2)) (tag2 (k % 2))
    omega
def corP (R : List Ms) (ps : List (Ms × Ms)) : List Cr := ps.flatMap fun p => crn R p.1 p.2 4
def corL (l : List Ms) : List Cr := corP l (pairsL l)
theorem corP_len (R : List Ms) (ps : List (Ms × Ms)) : (corP R ps).length ≤ 4 * ps.length := by
  unfold corP
  induction ps with
  | nil => simp
  | cons p r ih =>
    simp only [List.flatMap_cons, List.length_append, List.length_cons]
    have := crn_len R p.1 p.2 4
    omega
theorem mem_pick {R : List Ms} {m n : Ms} {s t : Bool} {p : Cr} : p ∈ pickC R m n s t ↔ detM m n ≠ 0 ∧ p = crossC m n (edgeC m s) (edgeC n t) ∧ In R p.x p.y p.d := by
  unfold pickC
  split
  · rename_i h
    simp [h]
  · rename_i h
    split
    · rename_i g
      rw [List.mem_singleton]
      constructor
      · rintro rfl
        exact ⟨h, rfl, holdsB_iff.1 g⟩
      · exact fun e => e.2.1
    · rename_i g
      constructor
      · intro e; cases e
      · rintro ⟨_, rfl, e⟩
        exact absurd (holdsB_iff.2 e) g
theorem mem_crn {R : List Ms} {m n : Ms} {p : Cr} : p ∈ crn R m n 4 ↔ detM m n ≠ 0 ∧ ∃ s t, p = crossC m n (edgeC m s) (edgeC n t) ∧ In R p.x p.y p.d := by
  have e : crn R m n 4 = pickC R m n false false ++ pickC R m n false true ++ pickC R m n true false ++ pickC R m n true true := by
    rw [crn_succ, crn_succ, crn_succ, crn_succ]
    rfl
  rw [e]
  simp only [List.mem_append, mem_pick]
  constructor
  · rintro (((h | h) | h) | h) <;> exact ⟨h.1, _, _, h.2⟩
  · rintro ⟨h, s, t, g⟩
    cases s <;> cases t
    · exact .inl (.inl (.inl ⟨h, g⟩))
    · exact .inl (.inl (.inr ⟨h, g⟩))
    · exact .inl (.inr ⟨h, g⟩)
    · exact .inr ⟨h, g⟩
theorem cross_swap (m n : Ms) (c e : Int) (h : detM m n ≠ 0) : crossC n m e c = crossC m n c e := by
  unfold crossC
  rw [det_swap m n]
  by_cases g : detM m n < 0
  · rw [if_neg (by omega), if_pos g]
    congr 1
    · grind
    · grind
  · rw [if_pos (by omega), if_neg g]
    congr 1
    · grind
    · grind
    · omega
/-- the list holds the corners of the region -/
theorem mem_corL {l : List Ms} {p : Cr} : p ∈ corL l ↔ IsCor l l p := by
  unfold corL corP
  rw [List.mem_flatMap]
  constructor
  · rintro ⟨q, hq, hp⟩
    obtain ⟨i, j, hj, hi, rfl⟩ := mem_pairs.1 hq
    obtain ⟨hd, s, t, rfl, hin⟩ := mem_crn.1 hp
    exact ⟨⟨_, nth_mem hi, _, nth_mem (by omega), hd, s, t, rfl⟩, hin⟩
  · rintro ⟨⟨m, hm, n, hn, hd, s, t, rfl⟩, hin⟩
    obtain ⟨i, hi, rfl⟩ := List.getElem_of_mem hm
    obtain ⟨j, hj, rfl⟩ := List.getElem_of_mem hn
    rcases Nat.lt_trichotomy i j with h | h | h
    · refine ⟨(nth l j, nth l i), mem_pairs.2 ⟨j, i, h, hj, rfl⟩, mem_crn.2 ?_⟩
      rw [nth_eq hj, nth_eq hi]
      exact ⟨fun e => hd (by rw [det_swap, e]; rfl), t, s, (cross_swap _ _ _ _ hd).symm, hin⟩
    · subst h
      exact absurd (show detM l[i] l[i] = 0 by unfold detM; omega) hd
    · refine ⟨(nth l i, nth l j), mem_pairs.2 ⟨i, j, h, hi, rfl⟩, mem_crn.2 ?_⟩
      rw [nth_eq hj, nth_eq hi]
      exact ⟨hd, s, t, rfl, hin⟩
end Go.Proofs.YtidelghgjibndaaGreat.S44
