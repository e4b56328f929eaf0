/-
  Slices of measurements that a call has built, and the walk of Without.
-/
import Derived.Test.YtplgdlooglnpmaaOwn43
import Derived.Laws.OwnMore
namespace Go.Proofs.Ytplgdlooglnpmaa
set_option linter.unusedVariables false
open Go.RowKit

def msC (l : List Ms) : List Value := l.flatMap fun m => [Value.int .i64 m.s, Value.int .i64 m.a, Value.int .i64 m.b, Value.int .i64 m.z, Value.int .i64 m.d, Value.int .i64 m.w]
theorem msC_append (l k : List Ms) : msC (l ++ k) = msC l ++ msC k := by unfold msC; rw [List.flatMap_append]
theorem msC_len (l : List Ms) : (msC l).length = l.length * 6 := by
  unfold msC
  induction l with
  | nil => rfl
  | cons p r ih => simp only [List.flatMap_cons, List.length_append, List.length_cons, List.length_nil, ih]; omega
theorem msC_get : ∀ (l : List Ms) (i : Nat) (h : i < l.length), (msC l)[i * 6]? = some (.int .i64 l[i].s) ∧ (msC l)[i * 6 + 1]? = some (.int .i64 l[i].a) ∧ (msC l)[i * 6 + 2]? = some (.int .i64 l[i].b) ∧ (msC l)[i * 6 + 3]? = some (.int .i64 l[i].z) ∧ (msC l)[i * 6 + 4]? = some (.int .i64 l[i].d) ∧ (msC l)[i * 6 + 5]? = some (.int .i64 l[i].w)
  | [], i, h => absurd h (by simp)
  | p :: l, 0, h => ⟨rfl, rfl, rfl, rfl, rfl, rfl⟩
  | p :: l, i + 1, h => by
    obtain ⟨a, b, c, d, e, f⟩ := msC_get l i (by simpa using h)
    unfold msC at *
    rw [List.flatMap_cons, show (i + 1) * 6 = i * 6 + 6 by omega]
    exact ⟨a, b, c, d, e, f⟩
/-- a slice of the call's own that holds these measurements -/
def OM (B : Nat) (w : World) (v : Value) (l : List Ms) : Prop := w.ownsRow B 36 6 v l.length (msC l)
theorem infoMeas : (Try.prog.info? 36).map (fun i => (i.zero, i.size, i.bytes)) = some (some (.agg #[.int .i64 0, .int .i64 0, .int .i64 0, .int .i64 0, .int .i64 0, .int .i64 0]), 6, 48) := by kernel_rfl
theorem wpList_om {ops : Array Oper} {rest : List Oper} {o : Oper} {a : Act} {Q : Exit → Act → World → Prop} (hgd : o.guard = none) (s x : Operand)
    (ho : o.op = .call { callee := .builtin .append, args := #[s, x], argTypes := #[22, 22] })
    (B : Nat) (v : Value) (l : List Ms) (hs : a.eval s = v) (w0 : World) (h : OM B w0 v l) (T : TypeId) (p : Ms) (c : Nat)
    (hx : a.eval x = .slice (some ⟨w0.heap.size, 0, none⟩) 1 c) (hl : l.length ≤ 100000) (hB : B ≤ w0.heap.size)
    (H : ∀ v' w', OM B w' v' (l ++ [p]) → (w0.alloc (.cells #[.int .i64 p.s, .int .i64 p.a, .int .i64 p.b, .int .i64 p.z, .int .i64 p.d, .int .i64 p.w] T)).grownBy w' v.ownBlock → (v'.ownBlock = v.ownBlock ∨ v'.ownBlock = some (w0.heap.size + 1)) → wpList Try.prog ops Q rest (a.put o.dst v') w') :
    wpList Try.prog ops Q (o :: rest) a (w0.alloc (.cells #[.int .i64 p.s, .int .i64 p.a, .int .i64 p.b, .int .i64 p.z, .int .i64 p.d, .int .i64 p.w] T)) := by
  obtain ⟨i0, hi, hz0, hz1, hz2⟩ := info_parts infoMeas
  refine wpList_append_own_at _ hgd s x 22 ho B 36 i0 (.agg #[.int .i64 0, .int .i64 0, .int .i64 0, .int .i64 0, .int .i64 0, .int .i64 0]) 6 48 Try.underlying22 hi hz0 hz1 hz2 rfl (by decide) v l.length (msC l) hs (World.ownsRow.alloc h _) ⟨w0.heap.size, 0, none⟩ 1 c (msC [p]) hx (by rw [msC_len]; rfl) ?_ ?_ (by unfold maxLen; omega) (by omega) (by simp; omega) ?_
  · intro j u hu
    have hadd : (⟨w0.heap.size, 0, none⟩ : Addr).add j = ⟨w0.heap.size, j, none⟩ := by unfold Addr.add; split <;> simp_all
    rw [hadd, World.cell?_alloc_at _ _ _ _ (by rfl)]
    unfold msC at hu
    simpa using hu
  · intro u hu
    unfold msC at hu
    simp only [List.flatMap_cons, List.flatMap_nil, List.append_nil, List.mem_cons, List.not_mem_nil, or_false] at hu
    rcases hu with rfl | rfl | rfl | rfl | rfl | rfl <;> rfl
  · intro v' w' ho' hg _ hat
    refine H v' w' (by unfold OM; rw [List.length_append, msC_append]; exact ho') hg ?_
    simpa using hat
/-- what a slice of measurements of the call's own is -/
theorem om_cases {B : Nat} {w : World} {v : Value} {l : List Ms} (h : OM B w v l) : (v = .slice none 0 0 ∧ l = []) ∨ ∃ g cap, v = .slice (some ⟨g, 0, none⟩) l.length cap ∧ l.length ≤ cap ∧ cap ≤ 9223372036854775807 ∧ B ≤ g ∧ MsAt l g 0 w ∧ ∀ j, w.frozen? ⟨g, j, none⟩ = false := by
  obtain ⟨h1, h2⟩ := h
  rcases h2 with ⟨rfl, hn⟩ | ⟨g, cap, cur, rfl, hb, hg, hc, hm, hs, ht⟩
  · exact .inl ⟨rfl, List.eq_nil_of_length_eq_zero hn⟩
  · have hlt : g < w.heap.size := (Array.getElem?_eq_some_iff.1 hg).1
    have hget : ∀ j, j < l.length * 6 → w.cell? ⟨g, j, none⟩ = (msC l)[j]? := fun j hj => by
      rw [← ht, List.getElem?_take, if_pos hj]
      unfold World.cell?
      rw [hg]
      simp
    unfold maxLen at hm
    refine .inr ⟨g, cap, rfl, hc, hm, hb, ⟨hlt, fun i hi => ?_, fun i hi => ?_, fun i hi => ?_, fun i hi => ?_, fun i hi => ?_, fun i hi => ?_⟩, fun j => by simp [World.frozen?, hg]⟩
    · rw [Nat.zero_add, hget _ (by omega), nth_eq hi]; exact (msC_get l i hi).1
    · rw [Nat.zero_add, hget _ (by omega), nth_eq hi]; exact (msC_get l i hi).2.1
    · rw [Nat.zero_add, hget _ (by omega), nth_eq hi]; exact (msC_get l i hi).2.2.1
    · rw [Nat.zero_add, hget _ (by omega), nth_eq hi]; exact (msC_get l i hi).2.2.2.1
    · rw [Nat.zero_add, hget _ (by omega), nth_eq hi]; exact (msC_get l i hi).2.2.2.2.1
    · rw [Nat.zero_add, hget _ (by omega), nth_eq hi]; exact (msC_get l i hi).2.2.2.2.2
theorem OM.lst {B : Nat} {w : World} {v : Value} {l : List Ms} (h : OM B w v l) : LstAt l v w := by
  rcases om_cases h with ⟨rfl, rfl⟩ | ⟨g, cap, rfl, h2, h3, _, h4, _⟩
  · exact .inl ⟨rfl, rfl⟩
  · exact .inr ⟨g, 0, cap, rfl, h2, h3, h4⟩
theorem OM.below {B : Nat} {w w' : World} {v : Value} {l : List Ms} (h : OM B w v l) (hb : Below w.heap.size w w') : OM B w' v l := by
  refine World.ownsRow.kept h (grown_of_below hb) ?_
  cases v.ownBlock <;> simp
theorem below_grown {B : Nat} {a b c : World} {r : Option Nat} (h : Below B a b) (g : b.grownBy c r) (hB : B ≤ b.heap.size) (hr : ∀ k, r = some k → B ≤ k) : Below B a c :=
  h.trans ⟨g.os, g.tape, g.output, g.size, fun k hk => g.block k (by omega) (fun e => by have := hr k e.symm; omega)⟩
def notS (s : Int) (m : Ms) : Bool := decide (m.s ≠ s)
def woL (l : List Ms) (s : Int) : List Ms := l.filter (notS s)
theorem woL_succ {l : List Ms} {s : Int} {k : Nat} (h : k < l.length) : woL (l.take (k + 1)) s = if (nth l k).s = s then woL (l.take k) s else woL (l.take k) s ++ [nth l k] := by
  unfold woL
  rw [take_nth h, List.filter_append]
  unfold notS
  by_cases q : (nth l k).s = s
  · rw [if_pos q]
    simp [q]
  · rw [if_neg q]
    simp [q]
theorem woL_len (l : List Ms) (s : Int) : (woL l s).length ≤ l.length := List.length_filter_le _ _
def WoR (l : List Ms) (s : Int) (w : World) (v u : Value) (wr : World) : Prop := ∃ k : Nat, u = .int .i64 k ∧ k ≤ l.length ∧ Hid (Below w.heap.size w wr) ∧ Hid (OM w.heap.size wr v (woL (l.take k) s))
set_option maxHeartbeats 4000000 in
set_option maxRecDepth 100000 in
theorem wo_some (l : List Ms) (s : Int) (b o cap : Nat) (w : World) (h : MsAt l b o w) (hc : l.length ≤ cap) (hm : cap ≤ 9223372036854775807) (hl : l.length ≤ 18) :
    Calls Try.prog 22 #[.slice (some ⟨b, o, none⟩) l.length cap, .int .i64 s] w fun e w' => (∃ u, e = .returned u ∧ OM w.heap.size w' u (woL l s)) ∧ Below w.heap.size w w' := by
  have H := Lib.hid h
  have hlt := h.lt
  clear h
  go_enter Try.func22, Try.ntmps22
  go_wp2
  go_loopw [5, 10] (WoR l s w) (fun _ i _ => l.length - (intOf i).toNat)
  case atStart => exact ⟨0, rfl, Nat.zero_le _, Lib.hid (Below.refl _ _), Lib.hid (World.ownsRow_nil _ _ _ _)⟩
  case round =>
    obtain ⟨k, rfl, hk, HB, HO⟩ := hrel
    by_cases q : k < l.length
    · have q' : decide (k < l.length) = true := by simpa using q
      have M := H.out.keep HB.out hlt
      have c0 := M.c0 k q
      have c1 := M.c1 k q
      have c2 := M.c2 k q
      have c3 := M.c3 k q
      have c4 := M.c4 k q
      have c5 := M.c5 k q
      have WS := Lib.hid (woL_succ (s := s) q)
      have SZ := Lib.hid (show (woL (l.take k) s).length ≤ 100000 by have := woL_len (l.take k) s; rw [List.length_take] at this; omega)
      have HS := Lib.hid HB.out.size
      clear M
      generalize hp : nth l k = p at *
      clear hp
      by_cases e : p.s = s
      · have g : (p.s != s) = false := by simpa using e
        have E := Lib.hid e
        clear e
        go_wp2
        go_roundw
        case rel =>
          have hb := (Below.refl wr.heap.size wr).alloc (Nat.le_refl _) (.cells #[.int .i64 p.s, .int .i64 p.a, .int .i64 p.b, .int .i64 p.z, .int .i64 p.d, .int .i64 p.w] 36)
          exact ⟨k + 1, by go_num, by omega, HB.out.trans (hb.mono HS.out), by rw [WS.out, if_pos E.out]; exact HO.out.below hb⟩
        case measure => simp [intOf]; omega
      · have g : (p.s != s) = true := by simpa using e
        have HA := Lib.hid ((Below.refl wr.heap.size wr).alloc (Nat.le_refl _) (.cells #[.int .i64 p.s, .int .i64 p.a, .int .i64 p.b, .int .i64 p.z, .int .i64 p.d, .int .i64 p.w] 36))
        go_wp2_with (at_builtin; refine Halt.mk ?_)
        unfold Halt
        refine wpList_om rfl (.tmp 18) (.tmp 20) rfl w.heap.size u5 (woL (l.take k) s) rfl (wr.alloc (.cells #[.int .i64 p.s, .int .i64 p.a, .int .i64 p.b, .int .i64 p.z, .int .i64 p.d, .int .i64 p.w] 36)) (HO.out.below HA.out) _ p 1 (by rw [World.size_alloc]; rfl) SZ.out (by have := HS.out; simp; omega) ?_
        intro u2 w5 ho5 hg5 hat5
        have HO5 : Hid (OM w.heap.size w5 u2 (woL (l.take (k + 1)) s)) := Lib.hid (by rw [WS.out, if_neg e]; exact ho5)
        have HB5 : Hid (Below w.heap.size w w5) := Lib.hid (below_grown ((HB.out.trans (HA.out.mono HS.out)).alloc (by simp; have := HS.out; omega) _) hg5 (by simp; have := HS.out; omega) (fun k hk => (World.ownsRow.lt HO.out k hk).1))
        clear hg5 hat5 c0 c1 c2 c3 c4 c5
        obtain ⟨g5, cap5, hu2⟩ := Go.Joins.ownsRow_form ho5 (show 0 < (woL (l.take k) s ++ [p]).length by rw [List.length_append, List.length_singleton]; omega)
        obtain ⟨N5, hN5⟩ : ∃ N, (woL (l.take k) s ++ [p]).length = N := ⟨_, rfl⟩
        rw [hN5] at hu2
        clear ho5 hN5
        subst hu2
        go_wp2
        go_roundw
        case rel => exact ⟨k + 1, by go_num, by omega, HB5, HO5⟩
        case measure => simp [intOf]; omega
    · obtain rfl : k = l.length := by omega
      rw [List.take_length] at HO
      rcases om_cases HO.out with ⟨rfl, hz⟩ | ⟨g, cap', rfl, _⟩
      · go_wp2
        go_ret
        exact ⟨⟨_, rfl, HO.out⟩, HB.out⟩
      · go_wp2
        go_ret
        exact ⟨⟨_, rfl, HO.out⟩, HB.out⟩
theorem wo_nil (s : Int) (w : World) :
    Calls Try.prog 22 #[.slice none 0 0, .int .i64 s] w fun e w' => (∃ u, e = .returned u ∧ OM w.heap.size w' u (woL [] s)) ∧ Below w.heap.size w w' := by
  go_enter Try.func22, Try.ntmps22
  go_wp2
  go_loop [5, 10] (fun u v => u = .slice none 0 0 ∧ v = .int .i64 0) (fun _ _ => 0)
  case atStart => exact ⟨rfl, rfl⟩
  case round =>
    obtain ⟨rfl, rfl⟩ := hrel
    go_wp2
    go_ret
    exact ⟨⟨_, rfl, World.ownsRow_nil _ _ _ _⟩, Below.refl _ _⟩
theorem wo_any (l : List Ms) (s : Int) (v : Value) (w : World) (h : LstAt l v w) (hl : l.length ≤ 18) :
    Calls Try.prog 22 #[v, .int .i64 s] w fun e w' => (∃ u, e = .returned u ∧ OM w.heap.size w' u (woL l s)) ∧ Below w.heap.size w w' := by
  rcases h with ⟨rfl, rfl⟩ | ⟨b, o, cap, rfl, h2, h3, h4⟩
  · exact wo_nil s w
  · exact wo_some l s b o cap w h4 h2 h3 hl
end Go.Proofs.Ytplgdlooglnpmaa
