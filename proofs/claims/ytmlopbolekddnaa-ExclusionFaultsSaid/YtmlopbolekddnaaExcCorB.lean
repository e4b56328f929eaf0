/-
  The corners as the closure lays them: the list, the memory's invariant, the append of one corner.
-/
import Derived.Test.YtmlopbolekddnaaExcFull
import Derived.Maps.AppendAt
import Derived.OwnWalk
import Derived.OneCell
import Derived.Deep.RegionHeld
namespace Go.Proofs.Ytmlopbolekddnaa
set_option linter.unusedVariables false
open Go.RowKit

def crC (l : List Cr) : List Value := l.flatMap fun p => [Value.int .i64 p.x, Value.int .i64 p.y, Value.int .i64 p.d]
theorem crC_append (l k : List Cr) : crC (l ++ k) = crC l ++ crC k := by unfold crC; rw [List.flatMap_append]
theorem crC_len (l : List Cr) : (crC l).length = l.length * 3 := by
  unfold crC
  induction l with
  | nil => rfl
  | cons p r ih => simp only [List.flatMap_cons, List.length_append, List.length_cons, List.length_nil, ih]; omega
theorem crC_get : ∀ (l : List Cr) (i : Nat) (h : i < l.length), (crC l)[i * 3]? = some (.int .i64 l[i].x) ∧ (crC l)[i * 3 + 1]? = some (.int .i64 l[i].y) ∧ (crC l)[i * 3 + 2]? = some (.int .i64 l[i].d)
  | [], i, h => absurd h (by simp)
  | p :: l, 0, h => ⟨rfl, rfl, rfl⟩
  | p :: l, i + 1, h => by
    obtain ⟨a, b, c⟩ := crC_get l i (by simpa using h)
    unfold crC at *
    rw [List.flatMap_cons, show (i + 1) * 3 = i * 3 + 3 by omega]
    exact ⟨a, b, c⟩
/-- a slice of the call's own that holds these corners -/
def OC (B : Nat) (w : World) (v : Value) (l : List Cr) : Prop := w.ownsRow B 92 3 v l.length (crC l)
theorem infoCor : (Try.prog.info? 92).map (fun i => (i.zero, i.size, i.bytes)) = some (some (.agg #[.int .i64 0, .int .i64 0, .int .i64 0]), 3, 24) := by kernel_rfl
def Halt (p : Prop) : Prop := p
theorem Halt.mk {p : Prop} (h : Halt p) : p := h
theorem wpList_oc {ops : Array Oper} {rest : List Oper} {o : Oper} {a : Act} {Q : Exit → Act → World → Prop} (hgd : o.guard = none) (s x : Operand)
    (ho : o.op = .call { callee := .builtin .append, args := #[s, x], argTypes := #[62, 62] })
    (B : Nat) (v : Value) (l : List Cr) (hs : a.eval s = v) (w0 : World) (h : OC B w0 v l) (T : TypeId) (p : Cr) (c : Nat)
    (hx : a.eval x = .slice (some ⟨w0.heap.size, 0, none⟩) 1 c) (hl : l.length ≤ 100000) (hB : B ≤ w0.heap.size)
    (H : ∀ v' w', OC B w' v' (l ++ [p]) → (w0.alloc (.cells #[.int .i64 p.x, .int .i64 p.y, .int .i64 p.d] T)).grownBy w' v.ownBlock → (v'.ownBlock = v.ownBlock ∨ v'.ownBlock = some (w0.heap.size + 1)) → wpList Try.prog ops Q rest (a.put o.dst v') w') :
    wpList Try.prog ops Q (o :: rest) a (w0.alloc (.cells #[.int .i64 p.x, .int .i64 p.y, .int .i64 p.d] T)) := by
  obtain ⟨i0, hi, hz0, hz1, hz2⟩ := info_parts infoCor
  refine wpList_append_own_at _ hgd s x 62 ho B 92 i0 (.agg #[.int .i64 0, .int .i64 0, .int .i64 0]) 3 24 Try.underlying62 hi hz0 hz1 hz2 rfl (by decide) v l.length (crC l) hs (World.ownsRow.alloc h _) ⟨w0.heap.size, 0, none⟩ 1 c (crC [p]) hx (by rw [crC_len]; rfl) ?_ ?_ (by unfold maxLen; omega) (by omega) (by simp; omega) ?_
  · intro j u hu
    have hadd : (⟨w0.heap.size, 0, none⟩ : Addr).add j = ⟨w0.heap.size, j, none⟩ := by unfold Addr.add; split <;> simp_all
    rw [hadd, World.cell?_alloc_at _ _ _ _ (by rfl)]
    unfold crC at hu
    simpa using hu
  · intro u hu
    unfold crC at hu
    simp only [List.flatMap_cons, List.flatMap_nil, List.append_nil, List.mem_cons, List.not_mem_nil, or_false] at hu
    rcases hu with rfl | rfl | rfl <;> rfl
  · intro v' w' ho' hg _ hat
    refine H v' w' (by unfold OC; rw [List.length_append, crC_append]; exact ho') hg ?_
    simpa using hat
/-- what is owned: the block of the variable, and that of the slice in it -/
def OwnC (bo : Nat) (W : World) (k : Nat) : Prop := k = bo ∨ ∃ u, W.cell? ⟨bo, 0, none⟩ = some u ∧ u.ownBlock = some k
/-- the closure's world: the list in block bl, the slice in block bo -/
structure CorI (w : World) (bl bo : Nat) (v u : Value) (C : List Cr) (W : World) : Prop where
  below : Below w.heap.size w W
  le : w.heap.size ≤ bo
  lb : bl ≤ bo
  lt : bo < W.heap.size
  lst : W.cell? ⟨bl, 0, none⟩ = some v
  cell : W.cell? ⟨bo, 0, none⟩ = some u
  frz : W.frozen? ⟨bo, 0, none⟩ = false
  own : OC (bo + 1) W u C
theorem grown_of_below {W w' : World} (hb : Below W.heap.size W w') : W.grownBy w' none := ⟨hb.os, hb.tape, hb.output, hb.size, fun k hk _ => hb.block k hk⟩
theorem CorI.keep {w : World} {bl bo : Nat} {v u : Value} {C : List Cr} {W w' : World} (h : CorI w bl bo v u C W) (hb : Below W.heap.size W w') : CorI w bl bo v u C w' := by
  have hl := h.lt
  refine ⟨h.below.trans (hb.mono h.below.size), h.le, h.lb, Nat.lt_of_lt_of_le hl hb.size, (hb.cell (p := ⟨bl, 0, none⟩) ?_).trans h.lst, (hb.cell (p := ⟨bo, 0, none⟩) hl).trans h.cell, (hb.frozen (p := ⟨bo, 0, none⟩) hl).trans h.frz, ?_⟩
  · have := h.lb
    show bl < W.heap.size
    omega
  · refine World.ownsRow.kept h.own (grown_of_below hb) ?_
    cases u.ownBlock <;> simp
theorem keepx_below {bo : Nat} {W w' : World} (hl : bo < W.heap.size) (hb : Below W.heap.size W w') : KeepX (OwnC bo) W w' :=
  ⟨hb.size, fun k hk hn => ⟨hb.block k hk, fun h => hn (by
    rcases h with h | ⟨u, h1, h2⟩
    · exact .inl h
    · exact .inr ⟨u, by rw [← h1]; exact (hb.cell (p := ⟨bo, 0, none⟩) hl).symm, h2⟩)⟩⟩
theorem KeepX.trans {Own : World → Nat → Prop} {a b c : World} (h : KeepX Own a b) (g : KeepX Own b c) : KeepX Own a c :=
  ⟨Nat.le_trans h.size g.size, fun k hk hn => by
    obtain ⟨h1, h2⟩ := h.keep k hk hn
    obtain ⟨g1, g2⟩ := g.keep k (Nat.lt_of_lt_of_le hk h.size) h2
    exact ⟨g1.trans h1, g2⟩⟩
theorem own_new {w : World} {bl bo : Nat} {v u : Value} {C : List Cr} {W : World} (h : CorI w bl bo v u C W) {k : Nat} (hk : W.heap.size ≤ k) : ¬ OwnC bo W k := by
  rintro (rfl | ⟨x, h1, h2⟩)
  · have := h.lt; omega
  · rw [h.cell] at h1
    obtain rfl := Option.some.inj h1
    have := (World.ownsRow.lt h.own k h2).2
    omega
theorem own_alloc {w : World} {bl bo : Nat} {v u : Value} {C : List Cr} {W : World} (h : CorI w bl bo v u C W) (o : Obj) : ¬ OwnC bo (W.alloc o) W.heap.size := by
  rintro (e | ⟨x, h1, h2⟩)
  · have := h.lt; omega
  · rw [(h.keep ((Below.refl _ _).alloc (Nat.le_refl _) o)).cell] at h1
    obtain rfl := Option.some.inj h1
    have := (World.ownsRow.lt h.own _ h2).2
    omega
/-- one corner appended and stored -/
theorem CorI.push {w : World} {bl bo : Nat} {v u u' : Value} {C : List Cr} {p : Cr} {W w5 : World} {ob : Obj} (h : CorI w bl bo v u C W) (hlb : bl ≠ bo) (hown : OC (bo + 1) w5 u' (C ++ [p])) (hg : (W.alloc ob).grownBy w5 u.ownBlock)
    (hat : u'.ownBlock = u.ownBlock ∨ u'.ownBlock = some (W.heap.size + 1)) :
    CorI w bl bo v u' (C ++ [p]) (w5.setCell ⟨bo, 0, none⟩ u') ∧ KeepX (OwnC bo) W (w5.setCell ⟨bo, 0, none⟩ u') := by
  have hb := (Below.refl W.heap.size W).alloc (Nat.le_refl _) ob
  have h2 := h.keep hb
  have hl := h.lt
  have hlb' := h.lb
  have hr : ∀ k, u.ownBlock = some k → bo + 1 ≤ k := fun k hk => (World.ownsRow.lt h.own k hk).1
  have hs := hg.size
  rw [World.size_alloc] at hs
  have hb5 : Below (bo + 1) (W.alloc ob) w5 := ⟨hg.os, hg.tape, hg.output, hg.size, fun k hk => hg.block k (by rw [World.size_alloc]; omega) (fun e => by have := hr k e.symm; omega)⟩
  have hc5 : w5.cell? ⟨bo, 0, none⟩ = some u := (hb5.cell (p := ⟨bo, 0, none⟩) (Nat.lt_succ_self bo)).trans h2.cell
  have hss : (w5.setCell ⟨bo, 0, none⟩ u').heap.size = w5.heap.size := by simp [World.setCell]
  have hcs : (w5.setCell ⟨bo, 0, none⟩ u').cell? ⟨bo, 0, none⟩ = some u' := World.cell?_setCell_same' w5 _ _ (by rw [hc5]; rfl)
  refine ⟨⟨?_, h.le, h.lb, by rw [hss]; omega, ?_, hcs, ?_, ?_⟩, by rw [hss]; omega, fun k hk hn => ⟨?_, ?_⟩⟩
  · exact (h2.below.trans (hb5.mono (by have := h.le; omega))).setCell (p := ⟨bo, 0, none⟩) h.le _
  · rw [World.cell?_setCell_far _ _ _ _ (show bo ≠ bl by omega)]
    exact (hb5.cell (p := ⟨bl, 0, none⟩) (show bl < bo + 1 by omega)).trans h2.lst
  · rw [World.frozen?_setCell]
    exact (hb5.frozen (p := ⟨bo, 0, none⟩) (Nat.lt_succ_self bo)).trans h2.frz
  · exact ownsRow_setCell_below hown (Nat.lt_succ_self bo) u'
  · have n1 : k ≠ bo := fun e => hn (.inl e)
    have n2 : some k ≠ u.ownBlock := fun e => hn (.inr ⟨u, h.cell, e.symm⟩)
    rw [Below.heap_setCell _ _ _ _ (by simpa using n1), hg.block k (by rw [World.size_alloc]; omega) n2, Below.heap_alloc _ _ _ hk]
  · rintro (e | ⟨x, h1, h3⟩)
    · exact hn (.inl e)
    · rw [hcs] at h1
      obtain rfl := Option.some.inj h1
      rcases hat with e | e
      · exact hn (.inr ⟨u, h.cell, by rw [← e]; exact h3⟩)
      · rw [e] at h3
        have := Option.some.inj h3
        omega
/-! the list -/
def pickC (R : List Ms) (m n : Ms) (s t : Bool) : List Cr := if detM m n = 0 then [] else if holdsB R (crossC m n (edgeC m s) (edgeC n t)) = true then [crossC m n (edgeC m s) (edgeC n t)] else []
def tag2 (i : Nat) : Bool := i == 1
/-- the first of the four corners of two strips -/
def crn (R : List Ms) (m n : Ms) (k : Nat) : List Cr := (List.range k).flatMap fun q => pickC R m n (tag2 (q / 2)) (tag2 (q % 2))
theorem crn_succ (R : List Ms) (m n : Ms) (k : Nat) : crn R m n (k + 1) = crn R m n k ++ pickC R m n (tag2 (k / 2)) (tag2 (k % 2)) := by
  unfold crn
  rw [List.range_succ, List.flatMap_append]
  simp
theorem pick_len (R : List Ms) (m n : Ms) (s t : Bool) : (pickC R m n s t).length ≤ 1 := by
  unfold pickC
  split
  · simp
  · split <;> simp
theorem crn_len (R : List Ms) (m n : Ms) (k : Nat) : (crn R m n k).length ≤ k := by
  induction k with
  | zero => simp [crn]
  | succ k ih =>
    rw [crn_succ, List.length_append]
    have := pick_len R m n (tag2 (k / 2)) (tag2 (k % 2))
    omega
def corP (R : List Ms) (ps : List (Ms × Ms)) : List Cr := ps.flatMap fun p => crn R p.1 p.2 4
def corL (l : List Ms) : List Cr := corP l (pairsL l)
theorem corP_len (R : List Ms) (ps : List (Ms × Ms)) : (corP R ps).length ≤ 4 * ps.length := by
  unfold corP
  induction ps with
  | nil => simp
  | cons p r ih =>
    simp only [List.flatMap_cons, List.length_append, List.length_cons]
    have := crn_len R p.1 p.2 4
    omega
theorem mem_pick {R : List Ms} {m n : Ms} {s t : Bool} {p : Cr} : p ∈ pickC R m n s t ↔ detM m n ≠ 0 ∧ p = crossC m n (edgeC m s) (edgeC n t) ∧ In R p.x p.y p.d := by
  unfold pickC
  split
  · rename_i h
    simp [h]
  · rename_i h
    split
    · rename_i g
      rw [List.mem_singleton]
      constructor
      · rintro rfl
        exact ⟨h, rfl, holdsB_iff.1 g⟩
      · exact fun e => e.2.1
    · rename_i g
      constructor
      · intro e; cases e
      · rintro ⟨_, rfl, e⟩
        exact absurd (holdsB_iff.2 e) g
theorem mem_crn {R : List Ms} {m n : Ms} {p : Cr} : p ∈ crn R m n 4 ↔ detM m n ≠ 0 ∧ ∃ s t, p = crossC m n (edgeC m s) (edgeC n t) ∧ In R p.x p.y p.d := by
  have e : crn R m n 4 = pickC R m n false false ++ pickC R m n false true ++ pickC R m n true false ++ pickC R m n true true := by
    rw [crn_succ, crn_succ, crn_succ, crn_succ]
    rfl
  rw [e]
  simp only [List.mem_append, mem_pick]
  constructor
  · rintro (((h | h) | h) | h) <;> exact ⟨h.1, _, _, h.2⟩
  · rintro ⟨h, s, t, g⟩
    cases s <;> cases t
    · exact .inl (.inl (.inl ⟨h, g⟩))
    · exact .inl (.inl (.inr ⟨h, g⟩))
    · exact .inl (.inr ⟨h, g⟩)
    · exact .inr ⟨h, g⟩
theorem cross_swap (m n : Ms) (c e : Int) (h : detM m n ≠ 0) : crossC n m e c = crossC m n c e := by
  unfold crossC
  rw [det_swap m n]
  by_cases g : detM m n < 0
  · rw [if_neg (by omega), if_pos g]
    congr 1
    · grind
    · grind
  · rw [if_pos (by omega), if_neg g]
    congr 1
    · grind
    · grind
    · omega
/-- the list holds the corners of the region -/
theorem mem_corL {l : List Ms} {p : Cr} : p ∈ corL l ↔ IsCor l l p := by
  unfold corL corP
  rw [List.mem_flatMap]
  constructor
  · rintro ⟨q, hq, hp⟩
    obtain ⟨i, j, hj, hi, rfl⟩ := mem_pairs.1 hq
    obtain ⟨hd, s, t, rfl, hin⟩ := mem_crn.1 hp
    exact ⟨⟨_, nth_mem hi, _, nth_mem (by omega), hd, s, t, rfl⟩, hin⟩
  · rintro ⟨⟨m, hm, n, hn, hd, s, t, rfl⟩, hin⟩
    obtain ⟨i, hi, rfl⟩ := List.getElem_of_mem hm
    obtain ⟨j, hj, rfl⟩ := List.getElem_of_mem hn
    rcases Nat.lt_trichotomy i j with h | h | h
    · refine ⟨(nth l j, nth l i), mem_pairs.2 ⟨j, i, h, hj, rfl⟩, mem_crn.2 ?_⟩
      rw [nth_eq hj, nth_eq hi]
      exact ⟨fun e => hd (by rw [det_swap, e]; rfl), t, s, (cross_swap _ _ _ _ hd).symm, hin⟩
    · subst h
      exact absurd (show detM l[i] l[i] = 0 by unfold detM; omega) hd
    · refine ⟨(nth l i, nth l j), mem_pairs.2 ⟨i, j, h, hi, rfl⟩, mem_crn.2 ?_⟩
      rw [nth_eq hj, nth_eq hi]
      exact ⟨hd, s, t, rfl, hin⟩
end Go.Proofs.Ytmlopbolekddnaa
