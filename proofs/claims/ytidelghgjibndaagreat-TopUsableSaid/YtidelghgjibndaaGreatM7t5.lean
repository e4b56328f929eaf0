/-
  Walks and laws of the layers below, gathered from several texts.
-/
import Derived.Sort.OwnSortedInts
import Derived.Lib.SlicesCompact
import Derived.Lib.RowBridge
import Derived.Deep.RegionHeld3
import Derived.Lib.QuietBelow
import Derived.Test.YtidelghgjibndaaGreatN7SnSensorThree
import Derived.IntWalk
import Derived.Test.YtidelghgjibndaaGreatM7t4
namespace Go.Proofs.YtidelghgjibndaaGreat
set_option linter.unusedVariables false
open Go.RowKit
def inC (l : List Int) : List Value := l.map (Value.int .i64)
/-- a slice of the call's own that holds these integers -/
def OI (B : Nat) (w : World) (v : Value) (l : List Int) : Prop := w.ownsRow B 3 1 v l.length (inC l)
theorem infoInt : (Tryz.prog.info? 3).map (fun i => (i.zero, i.size, i.bytes)) = some (some (.int .i64 0), 1, 8) := by kernel_rfl
theorem wpList_oi {ops : Array Oper} {rest : List Oper} {o : Oper} {a : Act} {Q : Exit → Act → World → Prop} (hgd : o.guard = none) (s x : Operand)
    (ho : o.op = .call { callee := .builtin .append, args := #[s, x], argTypes := #[85, 85] })
    (B : Nat) (v : Value) (l : List Int) (hs : a.eval s = v) (w0 : World) (h : OI B w0 v l) (T : TypeId) (p : Int) (c : Nat)
    (hx : a.eval x = .slice (some ⟨w0.heap.size, 0, none⟩) 1 c) (hl : l.length ≤ 100000) (hB : B ≤ w0.heap.size)
    (H : ∀ v' w', OI B w' v' (l ++ [p]) → (w0.alloc (.cells #[.int .i64 p] T)).grownBy w' v.ownBlock → (v'.ownBlock = v.ownBlock ∨ v'.ownBlock = some (w0.heap.size + 1)) → wpList Tryz.prog ops Q rest (a.put o.dst v') w') :
    wpList Tryz.prog ops Q (o :: rest) a (w0.alloc (.cells #[.int .i64 p] T)) := by
  obtain ⟨i0, hi, hz0, hz1, hz2⟩ := info_parts infoInt
  refine wpList_append_own_at _ hgd s x 85 ho B 3 i0 (.int .i64 0) 1 8 Tryz.underlying85 hi hz0 hz1 hz2 rfl (by decide) v l.length (inC l) hs (World.ownsRow.alloc h _) ⟨w0.heap.size, 0, none⟩ 1 c (inC [p]) hx (by unfold inC; rfl) ?_ ?_ (by unfold maxLen; omega) (by omega) (by simp; omega) ?_
  · intro j u hu
    have hadd : (⟨w0.heap.size, 0, none⟩ : Addr).add j = ⟨w0.heap.size, j, none⟩ := by unfold Addr.add; split <;> simp_all
    rw [hadd, World.cell?_alloc_at _ _ _ _ (by rfl)]
    unfold inC at hu
    simpa using hu
  · intro u hu
    unfold inC at hu
    simp only [List.map_cons, List.map_nil, List.mem_cons, List.not_mem_nil, or_false] at hu
    subst hu
    rfl
  · intro v' w' ho' hg _ hat
    refine H v' w' (by unfold OI inC; rw [List.length_append, List.map_append]; exact ho') hg ?_
    simpa using hat
structure IntsAt (l : List Int) (g : Nat) (w : World) : Prop where
  lt : g < w.heap.size
  c : ∀ i, i < l.length → w.cell? ⟨g, i, none⟩ = some (.int .i64 (l.getD i 0))
theorem IntsAt.below {l : List Int} {g : Nat} {w w' : World} (h : IntsAt l g w) (hb : Below w.heap.size w w') : IntsAt l g w' :=
  ⟨Nat.lt_of_lt_of_le h.lt hb.size, fun i hi => (hb.cell (p := ⟨g, i, none⟩) h.lt).trans (h.c i hi)⟩
theorem oi_cases {B : Nat} {w : World} {v : Value} {l : List Int} (h : OI B w v l) : (v = .slice none 0 0 ∧ l = []) ∨ ∃ g cap, v = .slice (some ⟨g, 0, none⟩) l.length cap ∧ l.length ≤ cap ∧ cap ≤ 9223372036854775807 ∧ B ≤ g ∧ IntsAt l g w := by
  obtain ⟨h1, h2⟩ := h
  rcases h2 with ⟨rfl, hn⟩ | ⟨g, cap, cur, rfl, hb, hg, hc, hm, hs, ht⟩
  · exact .inl ⟨rfl, List.eq_nil_of_length_eq_zero hn⟩
  · have hlt : g < w.heap.size := (Array.getElem?_eq_some_iff.1 hg).1
    unfold maxLen at hm
    refine .inr ⟨g, cap, rfl, hc, hm, hb, hlt, fun i hi => ?_⟩
    have e : (inC l)[i]? = some (.int .i64 (l.getD i 0)) := by
      unfold inC
      rw [List.getElem?_map, List.getElem?_eq_getElem hi, List.getD_eq_getElem?_getD, List.getElem?_eq_getElem hi]
      rfl
    rw [← e, ← ht, List.getElem?_take, if_pos (by omega)]
    unfold World.cell?
    rw [hg]
    simp
theorem OI.below {B : Nat} {w w' : World} {v : Value} {l : List Int} (h : OI B w v l) (hb : Below w.heap.size w w') : OI B w' v l := by
  refine World.ownsRow.kept h (grown_of_below hb) ?_
  cases v.ownBlock <;> simp
/-- the first of the integers -/
theorem OI.head {B : Nat} {w : World} {g cap : Nat} {l k : List Int} (h : OI B w (.slice (some ⟨g, 0, none⟩) (l ++ k).length cap) (l ++ k)) : OI B w (.slice (some ⟨g, 0, none⟩) l.length cap) l := by
  obtain ⟨h1, h2⟩ := h
  refine ⟨by unfold inC; simp, ?_⟩
  rcases h2 with ⟨e, _⟩ | ⟨g', cap', cur, e, hb, hg, hc, hm, hs, ht⟩
  · cases e
  · cases e
    refine .inr ⟨_, _, cur, rfl, hb, hg, by simp at hc; omega, hm, hs, ?_⟩
    have e2 : List.take (l.length * 1) (List.take ((l ++ k).length * 1) cur.toList) = List.take (l.length * 1) cur.toList := by
      rw [List.take_take]
      congr 1
      simp
    rw [← e2, ht]
    unfold inC
    rw [List.map_append, List.take_append_of_le_length (by simp), List.take_of_length_le (by simp)]
/-- sorted and compacted -/
theorem sort_own {B : Nat} {w : World} {v : Value} {l : List Int} (h : OI B w v l) (hl : l.length ≤ 100000) (hB : B ≤ w.heap.size) :
    Calls Tryz.prog 56 #[v] w fun e w' => e = .returned (.tuple #[]) ∧ OI B w' v (l.mergeSort fun x y => decide (x ≤ y)) ∧ Below B w w' := by
  obtain ⟨h1, h2⟩ := h
  rcases h2 with ⟨rfl, hn⟩ | ⟨g, cap, cur, rfl, hb, hg, hc, hm, hs, ht⟩
  · obtain rfl := List.eq_nil_of_length_eq_zero hn
    refine (Tryz.slices_Sort_int_none none 0 w).mono ?_
    rintro e w' ⟨rfl, rfl⟩
    exact ⟨rfl, by rw [List.mergeSort_nil]; exact World.ownsRow_nil _ _ _ _, Below.refl _ _⟩
  · have hlt : g < w.heap.size := (Array.getElem?_eq_some_iff.1 hg).1
    refine (Tryz.slices_Sort_int g 0 cap l w (holds_of_blockI hg (by unfold inC at ht; rw [Nat.mul_one] at ht; exact ht)) hlt (by omega)).mono ?_
    rintro e w' ⟨rfl, n, os, rfl⟩
    refine ⟨rfl, ?_, below_grown (Below.refl _ _) (grownBy_sortedI _) hB (fun k hk => by cases hk; exact hb)⟩
    have := ownsRow_sortedI (n := n) (os := os) (ss := l) (ts := l.mergeSort fun x y => decide (x ≤ y)) (by rw [List.length_mergeSort]) hb hg hc hm hs
    unfold OI
    rw [List.length_mergeSort]
    exact this
theorem compact_own {B : Nat} {w : World} {v : Value} {l : List Int} (h : OI B w v l) (hl : l.length ≤ 100000) (hB : B ≤ w.heap.size) :
    Calls Tryz.prog 57 #[v] w fun e w' => (∃ u, e = .returned u ∧ OI B w' u (Lib.compact l)) ∧ Below B w w' := by
  obtain ⟨h1, h2⟩ := h
  rcases h2 with ⟨rfl, hn⟩ | ⟨g, cap, cur, rfl, hb, hg, hc, hm, hs, ht⟩
  · obtain rfl := List.eq_nil_of_length_eq_zero hn
    refine (Tryz.slices_Compact_int_empty none 0 w).mono ?_
    rintro e w' ⟨rfl, rfl⟩
    exact ⟨⟨_, rfl, World.ownsRow_nil _ _ _ _⟩, Below.refl _ _⟩
  · refine (Tryz.slices_Compact_int g 0 cap l w (holds_of_blockI hg (by unfold inC at ht; rw [Nat.mul_one] at ht; exact ht)) (by omega) hc).mono ?_
    rintro e w' ⟨rfl, q, rfl⟩
    have hcl := Lib.compact_length_le l
    have G := grownBy_sortedI (w := w) (g := g) (n := q) (os := #[]) (Lib.compact l ++ List.replicate (l.length - (Lib.compact l).length) 0).toArray
    have hlen : (Lib.compact l ++ List.replicate (l.length - (Lib.compact l).length) 0).length = l.length := by simp; omega
    have O := ownsRow_sortedI (n := q) (os := #[]) (ss := l) (ts := Lib.compact l ++ List.replicate (l.length - (Lib.compact l).length) 0) hlen hb hg hc hm hs
    rw [Sort.grow_empty] at G O
    refine ⟨⟨_, rfl, ?_⟩, below_grown (Below.refl _ _) G hB (fun k hk => by cases hk; exact hb)⟩
    refine OI.head (k := List.replicate (l.length - (Lib.compact l).length) 0) ?_
    unfold OI
    rw [hlen]
    exact O
theorem srcs_succ {l : List Ms} {k : Nat} (h : k < l.length) : (l.take (k + 1)).map Ms.s = (l.take k).map Ms.s ++ [(nth l k).s] := by
  rw [take_nth h, List.map_append]
  rfl
def SrR (l : List Ms) (w : World) (v u : Value) (wr : World) : Prop := ∃ k : Nat, u = .int .i64 k ∧ k ≤ l.length ∧ Hid (Below w.heap.size w wr) ∧ Hid (OI w.heap.size wr v ((l.take k).map Ms.s))
set_option maxHeartbeats 4000000 in
set_option maxRecDepth 100000 in
theorem src_some (l : List Ms) (b o cap : Nat) (w : World) (h : MsAt l b o w) (hc : l.length ≤ cap) (hm : cap ≤ 9223372036854775807) (hl : l.length ≤ 18) :
    Calls Tryz.prog 29 #[.slice (some ⟨b, o, none⟩) l.length cap] w fun e w' => (∃ u, e = .returned u ∧ OI w.heap.size w' u (srcL l)) ∧ Below w.heap.size w w' := by
  have H := Lib.hid h
  have hlt := h.lt
  clear h
  go_enter Tryz.func29, Tryz.ntmps29
  go_wp2
  go_loopw [3, 8] (SrR l w) (fun _ i _ => l.length - (intOf i).toNat)
  case atStart => exact ⟨0, rfl, Nat.zero_le _, Lib.hid (Below.refl _ _), Lib.hid (World.ownsRow_nil _ _ _ _)⟩
  case round =>
    obtain ⟨k, rfl, hk, HB, HO⟩ := hrel
    by_cases q : k < l.length
    · have q' : decide (k < l.length) = true := by simpa using q
      have M := H.out.keep HB.out hlt
      have c0 := M.c0 k q
      have c1 := M.c1 k q
      have c2 := M.c2 k q
      have c3 := M.c3 k q
      have c4 := M.c4 k q
      have c5 := M.c5 k q
      have WS := Lib.hid (srcs_succ q)
      have SZ := Lib.hid (show ((l.take k).map Ms.s).length ≤ 100000 by rw [List.length_map, List.length_take]; omega)
      have HS := Lib.hid HB.out.size
      clear M
      generalize hp : nth l k = p at *
      clear hp
      have HA := Lib.hid ((Below.refl wr.heap.size wr).alloc (Nat.le_refl _) (.cells #[.int .i64 p.s, .int .i64 p.a, .int .i64 p.b, .int .i64 p.z, .int .i64 p.d, .int .i64 p.w] 59))
      go_wp2_with (at_builtin; refine Halt.mk ?_)
      unfold Halt
      refine wpList_oi rfl (.tmp 12) (.tmp 15) rfl w.heap.size u3 ((l.take k).map Ms.s) rfl (wr.alloc (.cells #[.int .i64 p.s, .int .i64 p.a, .int .i64 p.b, .int .i64 p.z, .int .i64 p.d, .int .i64 p.w] 59)) (HO.out.below HA.out) _ p.s 1 (by rw [World.size_alloc]; rfl) SZ.out (by have := HS.out; simp; omega) ?_
      intro u2 w5 ho5 hg5 hat5
      have HO5 : Hid (OI w.heap.size w5 u2 ((l.take (k + 1)).map Ms.s)) := Lib.hid (by rw [WS.out]; exact ho5)
      have HB5 : Hid (Below w.heap.size w w5) := Lib.hid (below_grown ((HB.out.trans (HA.out.mono HS.out)).alloc (by simp; have := HS.out; omega) _) hg5 (by simp; have := HS.out; omega) (fun k hk => (World.ownsRow.lt HO.out k hk).1))
      clear hg5 hat5 c0 c1 c2 c3 c4 c5
      obtain ⟨g5, cap5, hu2⟩ := Go.Joins.ownsRow_form ho5 (show 0 < ((l.take k).map Ms.s ++ [p.s]).length by rw [List.length_append, List.length_singleton]; omega)
      obtain ⟨N5, hN5⟩ : ∃ N, ((l.take k).map Ms.s ++ [p.s]).length = N := ⟨_, rfl⟩
      rw [hN5] at hu2
      clear ho5 hN5
      subst hu2
      go_wp2
      go_roundw
      case rel => exact ⟨k + 1, by go_num, by omega, HB5, HO5⟩
      case measure => simp [intOf]; omega
    · obtain rfl : k = l.length := by omega
      rw [List.take_length] at HO
      have HS := HB.out.size
      have L1 : (l.map Ms.s).length ≤ 100000 := by rw [List.length_map]; omega
      have L2 : (srtL l).length ≤ 100000 := by rw [srt_len]; omega
      have SO := Lib.hid (sort_own HO.out L1 HS)
      have CO := Lib.hid fun w1 (h : OI w.heap.size w1 u3 (srtL l)) (hs : w.heap.size ≤ w1.heap.size) => compact_own h L2 hs
      have FM : (∃ x y z, u3 = .slice x y z) := by
        rcases oi_cases HO.out with ⟨h, _⟩ | ⟨g, cap', h, _⟩
        · exact ⟨_, _, _, h⟩
        · exact ⟨_, _, _, h⟩
      obtain ⟨x3, y3, z3, rfl⟩ := FM
      clear HO
      go_wp2_with fail
      refine SO.out.mono ?_
      rintro e w1 ⟨rfl, ho1, hb1⟩
      have C1 := Lib.hid (CO.out w1 ho1 (Nat.le_trans HS hb1.size))
      have HB1 := Lib.hid (HB.out.trans hb1)
      clear ho1 hb1
      go_wp2_with fail
      refine C1.out.mono ?_
      rintro e w2 ⟨⟨u, rfl, ho2⟩, hb2⟩
      have HB2 := Lib.hid (HB1.out.trans hb2)
      have HO2 : Hid (OI w.heap.size w2 u (srcL l)) := Lib.hid ho2
      clear hb2
      have FM : (∃ x y z, u = .slice x y z) := by
        rcases oi_cases ho2 with ⟨h, _⟩ | ⟨g, cap', h, _⟩
        · exact ⟨_, _, _, h⟩
        · exact ⟨_, _, _, h⟩
      obtain ⟨x4, y4, z4, rfl⟩ := FM
      clear ho2
      go_wp2
      go_ret
      exact ⟨⟨_, rfl, HO2.out⟩, HB2.out⟩
theorem src_nil (w : World) :
    Calls Tryz.prog 29 #[.slice none 0 0] w fun e w' => (∃ u, e = .returned u ∧ OI w.heap.size w' u (srcL [])) ∧ Below w.heap.size w w' := by
  have SO := Lib.hid (Tryz.slices_Sort_int_none none 0 w)
  have CO := Lib.hid (Tryz.slices_Compact_int_empty none 0 w)
  go_enter Tryz.func29, Tryz.ntmps29
  go_wp2
  go_loop [3, 8] (fun u v => u = .slice none 0 0 ∧ v = .int .i64 0) (fun _ _ => 0)
  case atStart => exact ⟨rfl, rfl⟩
  case round =>
    obtain ⟨rfl, rfl⟩ := hrel
    go_wp2_with fail
    refine SO.out.mono ?_
    rintro e w1 ⟨rfl, rfl⟩
    go_wp2_with fail
    refine CO.out.mono ?_
    rintro e w2 ⟨rfl, rfl⟩
    go_wp2
    go_ret
    have e : srcL [] = [] := by unfold srcL srtL; rw [List.map_nil, List.mergeSort_nil]; rfl
    exact ⟨⟨_, rfl, by rw [e]; exact World.ownsRow_nil _ _ _ _⟩, Below.refl _ _⟩
theorem src_any (l : List Ms) (v : Value) (w : World) (h : LstAt l v w) (hl : l.length ≤ 18) :
    Calls Tryz.prog 29 #[v] w fun e w' => (∃ u, e = .returned u ∧ OI w.heap.size w' u (srcL l)) ∧ Below w.heap.size w w' := by
  rcases h with ⟨rfl, rfl⟩ | ⟨b, o, cap, rfl, h2, h3, h4⟩
  · exact src_nil w
  · exact src_some l b o cap w h4 h2 h3 hl
end Go.Proofs.YtidelghgjibndaaGreat
namespace Go.Proofs.YtidelghgjibndaaGreat.S44
set_option linter.unusedVariables false
open Go.RowKit
set_option maxHeartbeats 4000000 in
theorem src_some (l : List Ms) (b o cap : Nat) (w : World) (h : MsAt l b o w) (hc : l.length ≤ cap) (hm : cap ≤ 9223372036854775807) (hl : l.length ≤ 17) :
    Calls Tryz.prog 29 #[.slice (some ⟨b, o, none⟩) l.length cap] w fun e w' => (∃ u, e = .returned u ∧ OI w.heap.size w' u (srcL l)) ∧ Below w.heap.size w w' := by
  have H := Lib.hid h
  have hlt := h.lt
  clear h
  go_enter Tryz.func29, Tryz.ntmps29
  go_wp2
  go_loopw [3, 8] (SrR l w) (fun _ i _ => l.length - (intOf i).toNat)
  case atStart => exact ⟨0, rfl, Nat.zero_le _, Lib.hid (Below.refl _ _), Lib.hid (World.ownsRow_nil _ _ _ _)⟩
  case round =>
    obtain ⟨k, rfl, hk, HB, HO⟩ := hrel
    by_cases q : k < l.length
    · have q' : decide (k < l.length) = true := by simpa using q
      have M := H.out.keep HB.out hlt
      have c0 := M.c0 k q
      have c1 := M.c1 k q
      have c2 := M.c2 k q
      have c3 := M.c3 k q
      have c4 := M.c4 k q
      have c5 := M.c5 k q
      have WS := Lib.hid (srcs_succ q)
      have SZ := Lib.hid (show ((l.take k).map Ms.s).length ≤ 100000 by rw [List.length_map, List.length_take]; omega)
      have HS := Lib.hid HB.out.size
      clear M
      generalize hp : nth l k = p at *
      clear hp
      have HA := Lib.hid ((Below.refl wr.heap.size wr).alloc (Nat.le_refl _) (.cells #[.int .i64 p.s, .int .i64 p.a, .int .i64 p.b, .int .i64 p.z, .int .i64 p.d, .int .i64 p.w] 59))
      go_wp2_with (at_builtin; refine Halt.mk ?_)
      unfold Halt
      refine wpList_oi rfl (.tmp 12) (.tmp 15) rfl w.heap.size u3 ((l.take k).map Ms.s) rfl (wr.alloc (.cells #[.int .i64 p.s, .int .i64 p.a, .int .i64 p.b, .int .i64 p.z, .int .i64 p.d, .int .i64 p.w] 59)) (HO.out.below HA.out) _ p.s 1 (by rw [World.size_alloc]; rfl) SZ.out (by have := HS.out; simp; omega) ?_
      intro u2 w5 ho5 hg5 hat5
      have HO5 : Hid (OI w.heap.size w5 u2 ((l.take (k + 1)).map Ms.s)) := Lib.hid (by rw [WS.out]; exact ho5)
      have HB5 : Hid (Below w.heap.size w w5) := Lib.hid (below_grown ((HB.out.trans (HA.out.mono HS.out)).alloc (by simp; have := HS.out; omega) _) hg5 (by simp; have := HS.out; omega) (fun k hk => (World.ownsRow.lt HO.out k hk).1))
      clear hg5 hat5 c0 c1 c2 c3 c4 c5
      obtain ⟨g5, cap5, hu2⟩ := Go.Joins.ownsRow_form ho5 (show 0 < ((l.take k).map Ms.s ++ [p.s]).length by rw [List.length_append, List.length_singleton]; omega)
      obtain ⟨N5, hN5⟩ : ∃ N, ((l.take k).map Ms.s ++ [p.s]).length = N := ⟨_, rfl⟩
      rw [hN5] at hu2
      clear ho5 hN5
      subst hu2
      go_wp2
      go_roundw
      case rel => exact ⟨k + 1, by go_num, by omega, HB5, HO5⟩
      case measure => simp [intOf]; omega
    · obtain rfl : k = l.length := by omega
      rw [List.take_length] at HO
      have HS := HB.out.size
      have L1 : (l.map Ms.s).length ≤ 100000 := by rw [List.length_map]; omega
      have L2 : (srtL l).length ≤ 100000 := by rw [srt_len]; omega
      have SO := Lib.hid (sort_own HO.out L1 HS)
      have CO := Lib.hid fun w1 (h : OI w.heap.size w1 u3 (srtL l)) (hs : w.heap.size ≤ w1.heap.size) => compact_own h L2 hs
      have FM : (∃ x y z, u3 = .slice x y z) := by
        rcases oi_cases HO.out with ⟨h, _⟩ | ⟨g, cap', h, _⟩
        · exact ⟨_, _, _, h⟩
        · exact ⟨_, _, _, h⟩
      obtain ⟨x3, y3, z3, rfl⟩ := FM
      clear HO
      go_wp2_with fail
      refine SO.out.mono ?_
      rintro e w1 ⟨rfl, ho1, hb1⟩
      have C1 := Lib.hid (CO.out w1 ho1 (Nat.le_trans HS hb1.size))
      have HB1 := Lib.hid (HB.out.trans hb1)
      clear ho1 hb1
      go_wp2_with fail
      refine C1.out.mono ?_
      rintro e w2 ⟨⟨u, rfl, ho2⟩, hb2⟩
      have HB2 := Lib.hid (HB1.out.trans hb2)
      have HO2 : Hid (OI w.heap.size w2 u (srcL l)) := Lib.hid ho2
      clear hb2
      have FM : (∃ x y z, u = .slice x y z) := by
        rcases oi_cases ho2 with ⟨h, _⟩ | ⟨g, cap', h, _⟩
        · exact ⟨_, _, _, h⟩
        · exact ⟨_, _, _, h⟩
      obtain ⟨x4, y4, z4, rfl⟩ := FM
      clear ho2
      go_wp2
      go_ret
      exact ⟨⟨_, rfl, HO2.out⟩, HB2.out⟩
theorem src_any (l : List Ms) (v : Value) (w : World) (h : LstAt l v w) (hl : l.length ≤ 17) :
    Calls Tryz.prog 29 #[v] w fun e w' => (∃ u, e = .returned u ∧ OI w.heap.size w' u (srcL l)) ∧ Below w.heap.size w w' := by
  rcases h with ⟨rfl, rfl⟩ | ⟨b, o, cap, rfl, h2, h3, h4⟩
  · exact src_nil w
  · exact src_some l b o cap w h4 h2 h3 hl
end Go.Proofs.YtidelghgjibndaaGreat.S44
namespace Go.Proofs.YtidelghgjibndaaGreat.S44
set_option linter.unusedVariables false
open Go.RowKit
def okS (l : List Ms) (s : Int) : Bool := decide (0 < (corL (woL l s)).length)
def fuS (l : List Ms) (s : Int) : Bool := fullB (woL l s)
def rgtL (l : List Ms) (k : Nat) : List Int := ((srcL l).take k).filter (okS l)
theorem rgtL_succ {l : List Ms} {k : Nat} (h : k < (srcL l).length) : rgtL l (k + 1) = if okS l ((srcL l).getD k 0) = true then rgtL l k ++ [(srcL l).getD k 0] else rgtL l k := by
  have e : (srcL l).getD k 0 = (srcL l)[k] := by rw [List.getD_eq_getElem?_getD, List.getElem?_eq_getElem h]; rfl
  unfold rgtL
  rw [List.take_succ_eq_append_getElem h, List.filter_append, e]
  by_cases q : okS l (srcL l)[k] = true
  · rw [if_pos q]
    simp [q]
  · rw [if_neg q]
    simp [q]
theorem rgtL_len (l : List Ms) (k : Nat) : (rgtL l k).length ≤ l.length := by
  unfold rgtL
  have h1 := List.length_filter_le (okS l) ((srcL l).take k)
  rw [List.length_take] at h1
  have := src_len l
  omega
/-- what Fault says of a list of right sources -/
def verd (c : Nat) (r : List Int) : Int × Int := if 0 < c then (0, 0) else if r.length = 0 then (0, 11) else if 1 < r.length then (0, 8) else (r.getD 0 0, 0)
def fltF (l : List Ms) : Int × Int :=
  if chkL l = 0 then (if fullB l = true then (if (srcL l).all (fuS l) = true then verd (corL l).length ((srcL l).filter (okS l)) else (0, 14)) else (0, 14)) else (0, chkL l)
theorem wo_ed {l : List Ms} (he : ∀ m ∈ l, EdM m) (s : Int) : ∀ m ∈ woL l s, EdM m := fun m hm => he m (List.mem_filter.1 hm).1
theorem slc_of {B : Nat} {w : World} {v : Value} {l : List Int} (h : OI B w v l) : ∃ p cap, v = .slice p l.length cap := by
  rcases oi_cases h with ⟨rfl, rfl⟩ | ⟨g, cap, rfl, _⟩
  · exact ⟨none, 0, rfl⟩
  · exact ⟨_, _, rfl⟩
theorem slm_of {B : Nat} {w : World} {v : Value} {l : List Ms} (h : OM B w v l) : ∃ p cap, v = .slice p l.length cap := by
  rcases om_cases h with ⟨rfl, rfl⟩ | ⟨g, cap, rfl, _⟩
  · exact ⟨none, 0, rfl⟩
  · exact ⟨_, _, rfl⟩
def FlR (l : List Ms) (w W1 : World) (v u : Value) (wr : World) : Prop :=
  ∃ k : Nat, u = .int .i64 k ∧ k ≤ (srcL l).length ∧ Hid (Below W1.heap.size W1 wr) ∧ Hid (OI W1.heap.size wr v (rgtL l k)) ∧ Hid (∀ j, j < k → fuS l ((srcL l).getD j 0) = true)
def FlP (l : List Ms) (w : World) (e : Ending) (w' : World) : Prop := e = .returned (.tuple #[.int .i64 (fltF l).1, .int .i64 (fltF l).2]) ∧ Below w.heap.size w w'
set_option maxHeartbeats 8000000 in
theorem flt_any (l : List Ms) (v : Value) (w : World) (h : LstAt l v w) :
    Calls Tryz.prog 17 #[v] w (FlP l w) := by
  have CH := fun w hv => check_any l v w hv
  have H := Lib.hid h
  clear h
  by_cases hc : chkL l = 0
  · obtain ⟨he, hl⟩ := ed_of hc
    rw [hc] at CH
    have HCH := Lib.hid CH
    have FU := fun w hv => full_any l v w hv he hl
    have CO := Lib.hid fun w hv => corners_any l v w hv he hl
    have SR := Lib.hid fun w hv => src_any l v w hv hl
    have WO := Lib.hid fun s w hv => wo_any l s v w hv hl
    have E0 : fltF l = if fullB l = true then (if (srcL l).all (fuS l) = true then verd (corL l).length ((srcL l).filter (okS l)) else (0, 14)) else (0, 14) := by unfold fltF; rw [if_pos hc]
    have HE := Lib.hid he
    clear CH hc he
    cases hf : fullB l with
    | false =>
      rw [hf] at FU
      have HFU := Lib.hid FU
      have E := Lib.hid (show fltF l = (0, 14) by rw [E0, hf]; rfl)
      clear FU hf E0
      go_enter Tryz.func17, Tryz.ntmps17
      go_wp2_with fail
      refine (HCH.out _ H.out).mono ?_
      rintro e w1 ⟨rfl, hb1⟩
      have HB1 := Lib.hid hb1
      clear hb1
      go_wp2_with fail
      refine (HFU.out _ (H.out.below HB1.out)).mono ?_
      rintro e w2 ⟨rfl, hb2⟩
      have HB2 := Lib.hid (HB1.out.trans (hb2.mono HB1.out.size))
      clear hb2
      go_wp2
      go_ret2
      exact ⟨by rw [E.out]; rfl, HB2.out⟩
    | true =>
      rw [hf] at FU
      have HFU := Lib.hid FU
      have E := Lib.hid (show fltF l = if (srcL l).all (fuS l) = true then verd (corL l).length ((srcL l).filter (okS l)) else (0, 14) by rw [E0, hf]; rfl)
      clear FU hf E0
      go_enter Tryz.func17, Tryz.ntmps17
      go_wp2_with fail
      refine (HCH.out _ H.out).mono ?_
      rintro e w1 ⟨rfl, hb1⟩
      have HB1 := Lib.hid hb1
      clear hb1
      go_wp2_with fail
      refine (HFU.out _ (H.out.below HB1.out)).mono ?_
      rintro e w2 ⟨rfl, hb2⟩
      have HB2 := Lib.hid (HB1.out.trans (hb2.mono HB1.out.size))
      clear hb2
      go_wp2_with fail
      refine (SR.out _ (H.out.below HB2.out)).mono ?_
      rintro e w3 ⟨⟨u, rfl, hoi⟩, hb3⟩
      have HB3 := Lib.hid (HB2.out.trans (hb3.mono HB2.out.size))
      have HOI := Lib.hid hoi
      have HL := Lib.hid (H.out.below HB3.out)
      clear hb3
      obtain ⟨p, cap, rfl⟩ := slc_of hoi
      clear hoi
      go_wp2_with fail
      go_loopw [5, 22] (FlR l w w3) (fun _ i _ => (srcL l).length - (intOf i).toNat)
      case atStart => exact ⟨0, rfl, Nat.zero_le _, Lib.hid (Below.refl _ _), Lib.hid (by unfold rgtL; rw [List.take_zero, List.filter_nil]; exact World.ownsRow_nil _ _ _ _), Lib.hid fun j hj => absurd hj (by omega)⟩
      case round =>
        obtain ⟨k, rfl, hk, HB, HO, HF⟩ := hrel
        have HS := Lib.hid HB.out.size
        have HLr := Lib.hid (HL.out.below HB.out)
        have HBr := Lib.hid (HB3.out.trans (HB.out.mono HB3.out.size))
        by_cases q : k < (srcL l).length
        · have q' : decide (k < (srcL l).length) = true := by simpa using q
          have HPO : ∃ g, p = some ⟨g, 0, none⟩ ∧ (srcL l).length ≤ cap ∧ cap ≤ 9223372036854775807 ∧ IntsAt (srcL l) g wr := by
            rcases oi_cases HOI.out with ⟨e, hz⟩ | ⟨g, c, e, h1, h2, _, h3⟩
            · rw [hz] at q; exact absurd q (by simp)
            · cases e
              exact ⟨g, rfl, h1, h2, h3.below HB.out⟩
          obtain ⟨g, rfl, hcap, hcm, hia⟩ := HPO
          have c0 := hia.c k q
          have RS := Lib.hid (rgtL_succ q)
          have MEM : (srcL l).getD k 0 ∈ srcL l := by
            rw [List.getD_eq_getElem?_getD, List.getElem?_eq_getElem q]
            exact List.getElem_mem q
          have FALLS := fun h : fuS l ((srcL l).getD k 0) = false => show fltF l = (0, 14) by
            rw [E.out, if_neg]
            intro e
            have := List.all_eq_true.1 e _ MEM
            rw [h] at this
            cases this
          have HFA := Lib.hid FALLS
          have SZ := Lib.hid (show (rgtL l k).length ≤ 100000 by have := rgtL_len l k; omega)
          clear hia MEM FALLS
          generalize hsk : (srcL l).getD k 0 = s at *
          have HSK := Lib.hid hsk
          clear hsk
          have FUS := Lib.hid fun v w (h : LstAt (woL l s) v w) => full_any (woL l s) v w h (wo_ed HE.out s) (by have := woL_len l s; omega)
          have COS := Lib.hid fun v w (h : LstAt (woL l s) v w) => corners_any (woL l s) v w h (wo_ed HE.out s) (by have := woL_len l s; omega)
          have EFU := Lib.hid (show fuS l s = fullB (woL l s) from rfl)
          go_wp2_with fail
          refine (WO.out s _ HLr.out).mono ?_
          rintro e w4 ⟨⟨u4, rfl, hom⟩, hb4⟩
          have HL4 := Lib.hid hom.lst
          have HB4 := Lib.hid hb4
          clear hb4
          obtain ⟨p4, cap4, rfl⟩ := slm_of hom
          clear hom
          generalize hN4 : (woL l s).length = N4 at *
          clear hN4
          have FU4 := FUS.out _ _ HL4.out
          rw [← EFU.out] at FU4
          cases hfs : fuS l s with
          | false =>
            have EE := Lib.hid (HFA.out hfs)
            rw [hfs] at FU4
            have HFU4 := Lib.hid FU4
            clear FU4 hfs
            go_wp2_with fail
            refine HFU4.out.mono ?_
            rintro e w5 ⟨rfl, hb5⟩
            have HB5 := Lib.hid ((HBr.out.trans (HB4.out.mono HBr.out.size)).trans (hb5.mono (by have := HBr.out.size; have := HB4.out.size; omega)))
            clear hb5
            go_wp2
            go_ret2
            exact ⟨by rw [EE.out]; rfl, HB5.out⟩
          | true =>
            have HFk := Lib.hid (show ∀ j, j < k → fuS l ((srcL l).getD j 0) = true from HF.out)
            rw [hfs] at FU4
            have HFU4 := Lib.hid FU4
            have HFS := Lib.hid hfs
            clear FU4 hfs
            go_wp2_with fail
            refine HFU4.out.mono ?_
            rintro e w5 ⟨rfl, hb5⟩
            have HL5 := Lib.hid (HL4.out.below hb5)
            have HB5 := Lib.hid (HB4.out.trans (hb5.mono HB4.out.size))
            clear hb5
            go_wp2_with fail
            refine (COS.out _ _ HL5.out).mono ?_
            rintro e w6 ⟨⟨u6, rfl, hoc⟩, hb6⟩
            obtain ⟨p6, cap6, rfl⟩ := oc_len hoc
            have HB6 := Lib.hid (HB5.out.trans (hb6.mono HB5.out.size))
            clear hb6 hoc
            have HR6 := Lib.hid (show Below w3.heap.size w3 w6 from HB.out.trans (HB6.out.mono HS.out))
            have HO6 := Lib.hid (HO.out.below HB6.out)
            have OKE := Lib.hid (show okS l s = decide (0 < (corL (woL l s)).length) from rfl)
            generalize (corL (woL l s)).length = N6 at *
            have HF2 : Hid (∀ j, j < k + 1 → fuS l ((srcL l).getD j 0) = true) := Lib.hid fun j hj => by
              by_cases e : j = k
              · rw [e, HSK.out]; exact HFS.out
              · exact HFk.out j (by omega)
            by_cases hz : 0 < N6
            · have gz : decide (0 < (N6 : Int)) = true := by simp; omega
              have gz2 : decide (0 < N6) = true := by simpa using hz
              have RS2 := Lib.hid (RS.out.trans (if_pos (by rw [OKE.out]; exact decide_eq_true hz)))
              have HS6 := Lib.hid (show w3.heap.size ≤ w6.heap.size from HR6.out.size)
              clear hz
              go_wp2_with (at_builtin; refine Halt.mk ?_)
              unfold Halt
              refine wpList_oi rfl (.tmp 36) (.tmp 38) rfl w3.heap.size u5 (rgtL l k) rfl w6 HO6.out _ s 1 rfl SZ.out HS6.out ?_
              intro u2 w7 ho7 hg7 hat7
              have HO7 : Hid (OI w3.heap.size w7 u2 (rgtL l (k + 1))) := Lib.hid (by rw [RS2.out]; exact ho7)
              have HB7 : Hid (Below w3.heap.size w3 w7) := Lib.hid (below_grown (HR6.out.alloc HS6.out _) hg7 (by simp; have := HS6.out; omega) (fun k hk => (World.ownsRow.lt HO6.out k hk).1))
              clear hg7 hat7
              obtain ⟨g7, cap7, hu2⟩ := Go.Joins.ownsRow_form ho7 (show 0 < (rgtL l k ++ [s]).length by rw [List.length_append, List.length_singleton]; omega)
              obtain ⟨N7, hN7⟩ : ∃ N, (rgtL l k ++ [s]).length = N := ⟨_, rfl⟩
              rw [hN7] at hu2
              clear ho7 hN7
              subst hu2
              go_wp2
              go_roundw
              case rel => exact ⟨k + 1, by go_num, by omega, HB7, HO7, HF2⟩
              case measure => simp [intOf]; omega
            · have gz : decide (0 < (N6 : Int)) = false := by simp; omega
              have gz2 : decide (0 < N6) = false := by simpa using hz
              have RS2 := Lib.hid (RS.out.trans (if_neg (by rw [OKE.out]; simpa using hz)))
              clear hz
              go_wp2
              go_roundw
              case rel => exact ⟨k + 1, by go_num, by omega, HR6, Lib.hid (by rw [RS2.out]; exact HO6.out), HF2⟩
              case measure => simp [intOf]; omega
        · obtain rfl : k = (srcL l).length := by omega
          have q' : decide ((srcL l).length < (srcL l).length) = false := by simp
          have ER : rgtL l (srcL l).length = (srcL l).filter (okS l) := by unfold rgtL; rw [List.take_length]
          have HALL : (srcL l).all (fuS l) = true := List.all_eq_true.2 fun x hx => by
            obtain ⟨i, hi, rfl⟩ := List.getElem_of_mem hx
            have := HF.out i hi
            rw [List.getD_eq_getElem?_getD, List.getElem?_eq_getElem hi] at this
            exact this
          have EV := Lib.hid (show fltF l = verd (corL l).length (rgtL l (srcL l).length) by rw [E.out, if_pos HALL, ER])
          have COR := Lib.hid (CO.out _ HLr.out)
          clear ER HALL hk q
          generalize rgtL l (srcL l).length = r at *
          go_wp2_with fail
          refine COR.out.mono ?_
          rintro e w4 ⟨⟨u4, rfl, hoc⟩, hb4⟩
          have HB4 := Lib.hid (HBr.out.trans (hb4.mono HBr.out.size))
          have HO4 := Lib.hid (HO.out.below hb4)
          obtain ⟨p4, cap4, rfl⟩ := oc_len hoc
          clear hb4 hoc
          generalize (corL l).length = N4 at *
          by_cases hz : 0 < N4
          · have gz : decide (0 < (N4 : Int)) = true := by simp; omega
            have gz2 : decide (0 < N4) = true := by simpa using hz
            have EE := Lib.hid (show fltF l = (0, 0) by rw [EV.out]; unfold verd; rw [if_pos hz])
            clear hz
            go_wp2
            go_ret2
            exact ⟨by rw [EE.out]; rfl, HB4.out⟩
          · have gz : decide (0 < (N4 : Int)) = false := by simp; omega
            have gz2 : decide (0 < N4) = false := by simpa using hz
            have EV2 := Lib.hid (show fltF l = if r.length = 0 then (0, 11) else if 1 < r.length then (0, 8) else (r.getD 0 0, 0) by rw [EV.out]; unfold verd; rw [if_neg hz])
            clear hz
            obtain ⟨M, hM⟩ : ∃ M, r.length = M := ⟨_, rfl⟩
            rw [hM] at EV2
            by_cases h0 : M = 0
            · have EE := Lib.hid (EV2.out.trans (if_pos h0))
              have g0 : ((M : Int) == 0) = true := by rw [beq_iff_eq]; omega
              obtain ⟨p8, cap8, hu8⟩ := slc_of HO4.out
              rw [hM] at hu8
              subst hu8
              clear h0
              go_wp2
              go_ret2
              exact ⟨by rw [EE.out]; rfl, HB4.out⟩
            · have EV3 := Lib.hid (EV2.out.trans (if_neg h0))
              have g0 : ((M : Int) == 0) = false := by rw [beq_eq_false_iff_ne]; omega
              by_cases h1 : 1 < M
              · have EE := Lib.hid (EV3.out.trans (if_pos h1))
                have g1 : decide (1 < (M : Int)) = true := by simp; omega
                have g1' : decide (1 < M) = true := by simpa using h1
                obtain ⟨p8, cap8, hu8⟩ := slc_of HO4.out
                rw [hM] at hu8
                subst hu8
                clear h0 h1
                go_wp2
                go_ret2
                exact ⟨by rw [EE.out]; rfl, HB4.out⟩
              · have EE := Lib.hid (EV3.out.trans (if_neg h1))
                have g1 : decide (1 < (M : Int)) = false := by simp; omega
                have g1' : decide (1 < M) = false := by simpa using h1
                have hp : 0 < r.length := by omega
                rcases oi_cases HO4.out with ⟨_, hz⟩ | ⟨g8, cap8, hu8, c1, c2, _, hia⟩
                · rw [hz] at hp; exact absurd hp (by simp)
                · have c0 := hia.c 0 hp
                  rw [hM] at hu8 c1
                  subst hu8
                  obtain rfl : M = 1 := by omega
                  clear h0 h1 hia
                  generalize r.getD 0 0 = x8 at *
                  go_wp2
                  go_ret2
                  exact ⟨by rw [EE.out]; rfl, HB4.out⟩
  · have g : (chkL l != 0) = true := by simpa using hc
    have HCH := Lib.hid CH
    have E := Lib.hid (show fltF l = (0, chkL l) by unfold fltF; rw [if_neg hc])
    clear CH hc
    generalize chkL l = c at *
    go_enter Tryz.func17, Tryz.ntmps17
    go_wp2_with fail
    refine (HCH.out _ H.out).mono ?_
    rintro e w1 ⟨rfl, hb1⟩
    have HB1 := Lib.hid hb1
    clear hb1
    go_wp2
    go_ret2
    exact ⟨by rw [E.out]; rfl, HB1.out⟩
end Go.Proofs.YtidelghgjibndaaGreat.S44
namespace Go.Proofs.YtidelghgjibndaaGreat.S44
set_option linter.unusedVariables false
open Go.RowKit
theorem MsAt.drop {l : List Ms} {b o : Nat} {w : World} (h : MsAt l b o w) (k : Nat) : MsAt (l.drop k) b (o + k * 6) w := by
  have e : ∀ i, i < (l.drop k).length → k + i < l.length ∧ nth (l.drop k) i = nth l (k + i) := fun i hi => by
    rw [List.length_drop] at hi
    refine ⟨by omega, ?_⟩
    unfold nth
    rw [List.getD_eq_getElem?_getD, List.getD_eq_getElem?_getD, List.getElem?_drop]
  have a : ∀ i, o + k * 6 + i * 6 = o + (k + i) * 6 := fun i => by omega
  refine ⟨h.lt, fun i hi => ?_, fun i hi => ?_, fun i hi => ?_, fun i hi => ?_, fun i hi => ?_, fun i hi => ?_⟩ <;> rw [(e i hi).2, a]
  · exact h.c0 _ (e i hi).1
  · exact h.c1 _ (e i hi).1
  · exact h.c2 _ (e i hi).1
  · exact h.c3 _ (e i hi).1
  · exact h.c4 _ (e i hi).1
  · exact h.c5 _ (e i hi).1
end Go.Proofs.YtidelghgjibndaaGreat.S44
namespace Go.Proofs.YtidelghgjibndaaGreat.S44
set_option linter.unusedVariables false
open Go.RowKit
/-- how far a measurement is from holding -/
def missI (m : Ms) (x y : Int) : Int := m.a * x + m.b * y - m.z
def hldB (m : Ms) (x y : Int) : Bool := okM m && (vldP x y && decide (absI (missI m x y) ≤ m.d))
structure PtAt (x y : Int) (bp : Nat) (w : World) : Prop where
  lt : bp < w.heap.size
  c0 : w.cell? ⟨bp, 0, none⟩ = some (.int .i64 x)
  c1 : w.cell? ⟨bp, 1, none⟩ = some (.int .i64 y)
theorem PtAt.below {x y : Int} {bp : Nat} {w w' : World} (h : PtAt x y bp w) (hb : Below w.heap.size w w') : PtAt x y bp w' :=
  ⟨Nat.lt_of_lt_of_le h.lt hb.size, (hb.cell (p := ⟨bp, 0, none⟩) h.lt).trans h.c0, (hb.cell (p := ⟨bp, 1, none⟩) h.lt).trans h.c1⟩
def allB (l : List Ms) (x y but : Int) : Bool := l.all fun m => decide (m.s = but) || hldB m x y
end Go.Proofs.YtidelghgjibndaaGreat.S44
namespace Go.Proofs.YtidelghgjibndaaGreat.S44
set_option linter.unusedVariables false
open Go.RowKit
theorem absI_le {x d : Int} (h : absI x ≤ d) : x ≤ d ∧ -x ≤ d := by
  unfold absI at h
  split at h <;> omega
theorem hld_in {m : Ms} {x y : Int} (h : hldB m x y = true) : In1 m x y 1 := by
  unfold hldB at h
  simp only [Bool.and_eq_true, decide_eq_true_eq] at h
  obtain ⟨_, _, h⟩ := h
  obtain ⟨h1, h2⟩ := absI_le h
  unfold missI at h1 h2
  constructor <;> (unfold gI; omega)
theorem all_in {l : List Ms} {x y but : Int} (h : allB l x y but = true) : In (woL l but) x y 1 := fun m hm => by
  obtain ⟨h1, h2⟩ := List.mem_filter.1 hm
  have := List.all_eq_true.1 h m h1
  unfold notS at h2
  have hne := of_decide_eq_true h2
  rw [decide_eq_false hne, Bool.false_or] at this
  exact hld_in this
theorem cor_pos {l : List Ms} {x y : Int} (h : In l x y 1) (hf : fullB l = true) : 0 < (corL l).length := by
  obtain ⟨p, hp⟩ := corner_ex (by omega) h (fullB_iff.1 hf)
  exact List.length_pos_of_mem (mem_corL.2 hp)
/-- with at most one faulty source none but that one is excluded -/
theorem only_flt {l : List Ms} {x y but : Int} (hc : chkL l = 0) (h : allB l x y but = true) :
    (fltF l).2 ≠ 11 ∧ ((fltF l).1 = 0 ∨ (fltF l).1 = but) ∧ ((fltF l).2 = 0 ∨ (fltF l).2 = 14 ∨ (fltF l).2 = 8) := by
  unfold fltF
  rw [if_pos hc]
  by_cases hf : fullB l = true
  · rw [if_pos hf]
    by_cases ha : (srcL l).all (fuS l) = true
    · rw [if_pos ha]
      unfold verd
      by_cases h0 : 0 < (corL l).length
      · rw [if_pos h0]; exact ⟨by simp, .inl rfl, .inl rfl⟩
      · rw [if_neg h0]
        have hin := all_in h
        have hbut : but ∈ srcL l := by
          rw [mem_srcL]
          apply Classical.byContradiction
          intro hn
          have e : woL l but = l := by
            unfold woL
            rw [List.filter_eq_self]
            intro m hm
            unfold notS
            exact decide_eq_true fun e => hn ⟨m, hm, e⟩
          rw [e] at hin
          exact h0 (cor_pos hin hf)
        have hfb : fullB (woL l but) = true := List.all_eq_true.1 ha but hbut
        have hmem : but ∈ (srcL l).filter (okS l) := List.mem_filter.2 ⟨hbut, decide_eq_true (cor_pos hin hfb)⟩
        rw [if_neg (by have := List.length_pos_of_mem hmem; omega)]
        by_cases h1 : 1 < ((srcL l).filter (okS l)).length
        · rw [if_pos h1]; exact ⟨by simp, .inl rfl, .inr (.inr rfl)⟩
        · rw [if_neg h1]
          refine ⟨by simp, .inr ?_, .inl rfl⟩
          generalize (srcL l).filter (okS l) = r at *
          match r, hmem, h1 with
          | [z], hm, _ => exact (List.mem_singleton.1 hm).symm
          | z :: z' :: r, _, h1 => exact absurd (show 1 < (z :: z' :: r).length by simp) h1
    · rw [if_neg ha]; exact ⟨by simp, .inl rfl, .inr (.inl rfl)⟩
  · rw [if_neg hf]; exact ⟨by simp, .inl rfl, .inr (.inl rfl)⟩
end Go.Proofs.YtidelghgjibndaaGreat.S44
namespace Go.Proofs.YtidelghgjibndaaGreat
set_option linter.unusedVariables false
/-- what a report of the tick gives -/
def rowT (tk cx cy x y : Int) (r : Rp) : List Ms := if r.t = tk then (rowsN r cx cy x y).1 else []
def rowsT (tk cx cy x y : Int) (L : List Rp) : List Ms := L.flatMap (rowT tk cx cy x y)
theorem rowsT_len (tk cx cy x y : Int) : ∀ L : List Rp, (rowsT tk cx cy x y L).length ≤ 2 * L.length
  | [] => by simp [rowsT]
  | r :: L => by
    have ih := rowsT_len tk cx cy x y L
    unfold rowsT at *
    rw [List.flatMap_cons, List.length_append, List.length_cons]
    have : (rowT tk cx cy x y r).length ≤ 2 := by
      unfold rowT
      split
      · exact rowsN_len r cx cy x y
      · simp
    omega
theorem rowsT_succ (tk cx cy x y : Int) {L : List Rp} {k : Nat} (h : k < L.length) : rowsT tk cx cy x y (L.take (k + 1)) = rowsT tk cx cy x y (L.take k) ++ rowT tk cx cy x y (nthR L k) := by
  have e : L.take (k + 1) = L.take k ++ [nthR L k] := by
    rw [List.take_succ_eq_append_getElem h]
    congr 1
    unfold nthR
    rw [List.getD_eq_getElem?_getD, List.getElem?_eq_getElem h]
    rfl
  unfold rowsT
  rw [e, List.flatMap_append]
  simp
theorem rowT_other {tk cx cy x y : Int} {r : Rp} (h : r.t ≠ tk) : rowT tk cx cy x y r = [] := if_neg h
theorem rowT_bad {tk cx cy x y : Int} {r : Rp} (h : (rowsN r cx cy x y).2 ≠ 0) : rowT tk cx cy x y r = [] := by
  unfold rowT
  split
  · exact rowsN_bad h
  · rfl
theorem rowT_good {tk cx cy x y : Int} {r : Rp} (h : r.t = tk) : rowT tk cx cy x y r = (rowsN r cx cy x y).1 := if_pos h
theorem rowT_mem {tk cx cy x y : Int} {r : Rp} {m : Ms} (h : m ∈ rowT tk cx cy x y r) : r.t = tk ∧ (rowsN r cx cy x y).2 = 0 ∧ m ∈ (rowsN r cx cy x y).1 := by
  by_cases h1 : r.t = tk
  · by_cases h2 : (rowsN r cx cy x y).2 = 0
    · rw [rowT_good h1] at h
      exact ⟨h1, h2, h⟩
    · rw [rowT_bad h2] at h
      exact absurd h (by simp)
  · rw [rowT_other h1] at h
    exact absurd h (by simp)
/-- what two ranges have in common -/
def ovL (a x b y : Int) : Int := max (a - x) (b - y)
def ovH (a x b y : Int) : Int := min (a + x) (b + y)
def ovM (a x b y : Int) : Int := (ovL a x b y + ovH a x b y) / 2
def mrgB (a b : Bx4) : Bx4 := ⟨ovM a.cx a.x b.cx b.x, ovM a.cy a.y b.cy b.y, ovH a.cx a.x b.cx b.x - ovM a.cx a.x b.cx b.x, ovH a.cy a.y b.cy b.y - ovM a.cy a.y b.cy b.y⟩
def mrgF (a b : Bx4) : Bx4 × Int :=
  if bxV a = true then (if bxV b = true then (if ovL a.cx a.x b.cx b.x ≤ ovH a.cx a.x b.cx b.x ∧ ovL a.cy a.y b.cy b.y ≤ ovH a.cy a.y b.cy b.y then (mrgB a b, 0) else (bx0, 11)) else (bx0, 1)) else (bx0, 1)
theorem mrg_ok {a b c : Bx4} (h : mrgF a b = (c, 0)) : bxV a = true ∧ bxV b = true ∧ c = mrgB a b ∧ bxV c = true ∧ c.x ≤ a.x ∧ c.y ≤ a.y := by
  unfold mrgF at h
  split at h
  · rename_i h1
    split at h
    · rename_i h2
      split at h
      · rename_i h3
        have hc : mrgB a b = c := (Prod.mk.inj h).1
        have v1 := bxV_iff.1 h1
        have v2 := bxV_iff.1 h2
        subst hc
        refine ⟨h1, h2, rfl, bxV_iff.2 ?_, ?_, ?_⟩ <;> (unfold mrgB ovM ovL ovH at *; simp only at *; omega)
      · cases h
    · cases h
  · cases h
theorem mrg_in {a b c : Bx4} {px py : Int} (h : mrgF a b = (c, 0)) (ha : inB a px py) (hb : inB b px py) : inB c px py := by
  obtain ⟨_, _, e, _⟩ := mrg_ok h
  subst e
  unfold inB mrgB ovM ovL ovH at *
  simp only at *
  omega
def toB (b : BoxI) : Bx4 := ⟨b.cx, b.cy, b.x, b.y⟩
/-- the levels without the excluded source -/
def fixL (l : List Ms) : BoxI × Int := levF (woL l (S44.fltF l).1)
/-- the fix: its box, the excluded source, and whether there is one -/
def fixF (l : List Ms) (a : Bx4) : (Bx4 × Int) × Bool :=
  if (S44.fltF l).2 = 0 then (if (fixL l).2 = 0 then (((mrgF a (toB (fixL l).1)).1, (S44.fltF l).1), decide ((mrgF a (toB (fixL l).1)).2 = 0)) else ((bx0, 0), false)) else ((bx0, 0), false)
theorem fix_ok {l : List Ms} {a c : Bx4} {k : Int} (h : fixF l a = ((c, k), true)) : (S44.fltF l).2 = 0 ∧ (S44.fltF l).1 = k ∧ (fixL l).2 = 0 ∧ mrgF a (toB (fixL l).1) = (c, 0) := by
  unfold fixF at h
  split at h
  · rename_i h1
    split at h
    · rename_i h2
      simp only [Prod.mk.injEq, decide_eq_true_eq] at h
      obtain ⟨⟨e1, e2⟩, e3⟩ := h
      exact ⟨h1, e2, h2, Prod.ext e1 e3⟩
    · simp at h
  · simp at h
/-- a state after a cycle: its box, the missed cycles, the excluded source -/
structure Cyc where
  box : Bx4
  ms : Int
  ex : Int
def cycF (c : Bx4) (m : Int) (l : List Ms) : Cyc := if (fixF l c).2 = true then ⟨(fixF l c).1.1, 0, (fixF l c).1.2⟩ else ⟨c, min (m + 1) 1000, 0⟩
def stpC (b : Bx4) (t m tick ve vn dr : Int) (L : List Rp) : Cyc :=
  cycF (movB b ve vn dr (tick - t)) m (rowsT tick (movB b ve vn dr (tick - t)).cx (movB b ve vn dr (tick - t)).cy (movB b ve vn dr (tick - t)).x (movB b ve vn dr (tick - t)).y L)
/-- the error of a step -/
def stpE2 (b : Bx4) (t m tick ve vn dr rq : Int) (n : Nat) : Int :=
  if chkS b t m ≠ 0 then chkS b t m else if tick ≤ t then 16 else if 1099511627776 < tick ∨ rq < 0 ∨ 2000000 < rq then 2 else if 8 < n then 3 else (cstF b ve vn dr (tick - t)).2
theorem stp_ok2 {b : Bx4} {t m tick ve vn dr rq : Int} {n : Nat} (h : stpE2 b t m tick ve vn dr rq n = 0) : chkS b t m = 0 ∧ t < tick ∧ (tick ≤ 1099511627776 ∧ 0 ≤ rq ∧ rq ≤ 2000000) ∧ n ≤ 8 ∧ (cstF b ve vn dr (tick - t)).2 = 0 := by
  unfold stpE2 at h
  split at h
  · rename_i h1; exact absurd h h1
  · rename_i h1
    split at h
    · cases h
    · rename_i h2
      split at h
      · cases h
      · rename_i h3
        split at h
        · cases h
        · rename_i h4
          exact ⟨Decidable.not_not.1 h1, by omega, by omega, by omega, h⟩
/-- the coasted box is valid, and narrower is the new one -/
theorem cyc_narrow {c : Bx4} {m : Int} {l : List Ms} (hv : bxV c = true) : bxV (cycF c m l).box = true ∧ (cycF c m l).box.x ≤ c.x ∧ (cycF c m l).box.y ≤ c.y ∧ ((cycF c m l).ms ≠ 0 → (cycF c m l).box = c) := by
  unfold cycF
  split
  · rename_i h
    obtain ⟨R, hf⟩ : ∃ z, fixF l c = z := ⟨_, rfl⟩
    rw [hf] at h ⊢
    obtain ⟨⟨b, k⟩, o⟩ := R
    simp only at h
    subst h
    obtain ⟨_, _, _, h4⟩ := fix_ok hf
    obtain ⟨_, _, _, h5, h6, h7⟩ := mrg_ok h4
    exact ⟨h5, h6, h7, fun q => absurd rfl q⟩
  · exact ⟨hv, Int.le_refl _, Int.le_refl _, fun _ => rfl⟩
theorem inN_iff {b : Bx4} {px py : Int} : inN b.cx b.cy b.x b.y px py = true ↔ bxV b = true ∧ inB b px py := by
  unfold inN
  rw [S41.insB_iff, S41.boxV_iff, bxV_iff]
  unfold inB
  omega
theorem vld_pv2 (x y : Int) : vldP x y = S41.pvB x y := by
  rw [Bool.eq_iff_iff, vldP_iff, S41.pvB_iff]
/-- all hold but those of one source -/
def HonL (l : List Ms) (fa px py : Int) : Prop := ∀ m ∈ l, m.s ≠ fa → HoldP m px py
theorem hon_all {l : List Ms} {fa px py : Int} (h : HonL l fa px py) (hc : chkL l = 0) (hv : S41.pvB px py = true) : S44.allB l px py fa = true := by
  refine List.all_eq_true.2 fun m hm => ?_
  by_cases e : m.s = fa
  · rw [decide_eq_true e, Bool.true_or]
  · have k := h m hm e
    have o := (chkL_ok hc).2 m hm
    rw [decide_eq_false e, Bool.false_or]
    unfold S44.hldB
    rw [okM_iff.2 o, vld_pv2, hv, Bool.true_and, Bool.true_and, decide_eq_true_eq]
    unfold S44.missI absI
    unfold HoldP at k
    split <;> omega
theorem flt_chk2 {l : List Ms} (h : (S44.fltF l).2 = 0) : chkL l = 0 := by
  by_cases hc : chkL l = 0
  · exact hc
  · unfold S44.fltF at h
    rw [if_neg hc] at h
    exact absurd h hc
/-- with at most one faulty source the point stays in the new box, and no other source is excluded -/
theorem cyc_safe {c : Bx4} {m : Int} {l : List Ms} {fa px py : Int} (hv : bxV c = true) (hi : inB c px py) (hp : S41.pvB px py = true) (h : HonL l fa px py) :
    inB (cycF c m l).box px py ∧ ((cycF c m l).ex = 0 ∨ (cycF c m l).ex = fa) := by
  unfold cycF
  split
  · rename_i hq
    obtain ⟨R, hf⟩ : ∃ z, fixF l c = z := ⟨_, rfl⟩
    rw [hf] at hq ⊢
    obtain ⟨⟨b, k⟩, o⟩ := R
    simp only at hq
    subst hq
    obtain ⟨h1, h2, h3, h4⟩ := fix_ok hf
    have hc := flt_chk2 h1
    have ho := (S44.only_flt hc (hon_all h hc hp)).2.1
    rw [h2] at ho
    refine ⟨?_, ho⟩
    refine mrg_in h4 hi ?_
    have hw : HonL (woL l k) fa px py := fun x hx => h x (List.mem_filter.1 hx).1
    unfold fixL at h3 ⊢
    rw [h2] at h3 ⊢
    have p := protects (lev_ok h3) hw
    exact ⟨⟨p.x0, p.x1⟩, p.y0, p.y1⟩
  · exact ⟨hi, .inl rfl⟩
theorem rows_hon {tk : Int} {c : Bx4} {L : List Rp} {fa px py : Int} (hi : inN c.cx c.cy c.x c.y px py = true) (h : ∀ i, i < L.length → (nthR L i).t = tk → (nthR L i).s ≠ fa → agN (nthR L i) px py = true) : HonL (rowsT tk c.cx c.cy c.x c.y L) fa px py := by
  intro m hm hs
  obtain ⟨r, hr, hmr⟩ := List.mem_flatMap.1 hm
  obtain ⟨h1, h2, h3⟩ := rowT_mem hmr
  obtain ⟨i, hi2, e⟩ := List.getElem_of_mem hr
  have en : nthR L i = r := by
    unfold nthR
    rw [List.getD_eq_getElem?_getD, List.getElem?_eq_getElem hi2, e]
    rfl
  have hsr := (rowsN_src h2).2 m h3
  have ha := h i hi2 (by rw [en]; exact h1) (by rw [en]; omega)
  rw [en] at ha
  exact rowsN_cert h2 ha hi m h3
theorem in_moves {b : Bx4} {ve vn dr tk px py qx qy : Int} (h : inB b px py) (hx : qx - px - ve * tk ≤ dr * tk ∧ -(qx - px - ve * tk) ≤ dr * tk) (hy : qy - py - vn * tk ≤ dr * tk ∧ -(qy - py - vn * tk) ≤ dr * tk) : inB (movB b ve vn dr tk) qx qy := by
  unfold inB movB at *
  simp only
  generalize ve * tk = a at *
  generalize vn * tk = a2 at *
  generalize dr * tk = a3 at *
  omega
end Go.Proofs.YtidelghgjibndaaGreat
namespace Go.Proofs.YtidelghgjibndaaGreat
set_option linter.unusedVariables false
theorem mulb {x y X Y : Int} (hX : 0 ≤ X) (hx0 : -X ≤ x) (hx : x ≤ X) (hy0 : -Y ≤ y) (hy : y ≤ Y) : -(X * Y) ≤ x * y ∧ x * y ≤ X * Y := by
  have hY : 0 ≤ Y := by omega
  rcases Int.le_total 0 x with h | h
  · have a := Int.mul_le_mul_of_nonneg_left hy0 h
    have b := Int.mul_le_mul_of_nonneg_left hy h
    have c := Int.mul_le_mul_of_nonneg_right hx hY
    have e : x * -Y = -(x * Y) := by grind
    omega
  · have a := Int.mul_le_mul_of_nonneg_left hy0 (show 0 ≤ -x by omega)
    have b := Int.mul_le_mul_of_nonneg_left hy (show 0 ≤ -x by omega)
    have c := Int.mul_le_mul_of_nonneg_right (show -x ≤ X by omega) hY
    have e1 : -x * -Y = x * Y := by grind
    have e2 : -x * y = -(x * y) := by grind
    have e3 : -x * Y = -(x * Y) := by grind
    omega
/-- valid measurements, at most 16 -/
structure OkL (l : List Ms) : Prop where
  len : l.length ≤ 16
  ok : ∀ m ∈ l, OkM m
theorem okL_of {l : List Ms} (h : chkL l = 0) : OkL l := ⟨(chkL_ok h).1, (chkL_ok h).2⟩
theorem OkL.take {l : List Ms} (h : OkL l) (k : Nat) : OkL (l.take k) := ⟨by rw [List.length_take]; have := h.len; omega, fun m hm => h.ok m (List.mem_of_mem_take hm)⟩
theorem OkL.wo {l : List Ms} (h : OkL l) (k : Int) : OkL (woL l k) := ⟨Nat.le_trans (woL_len _ _) h.len, fun m hm => h.ok m (List.mem_filter.1 hm).1⟩
theorem OkL.sum {l : List Ms} (h : OkL l) (f : Ms → Int) (B : Int) (hB : 0 ≤ B) (hf : ∀ m ∈ l, -B ≤ f m ∧ f m ≤ B) : -(16 * B) ≤ sumL f l ∧ sumL f l ≤ 16 * B := by
  have s := sum_bd f B l hf
  have e := Int.mul_le_mul_of_nonneg_right (show (l.length : Int) ≤ 16 by have := h.len; omega) hB
  omega
theorem term2 {w a b A B : Int} (hA : 0 ≤ A) (w0 : 1 ≤ w) (w1 : w ≤ 16) (a0 : -A ≤ a) (a1 : a ≤ A) (b0 : -B ≤ b) (b1 : b ≤ B) : -(16 * A * B) ≤ w * a * b ∧ w * a * b ≤ 16 * A * B := by
  obtain ⟨h1, h2⟩ := mulb (X := 16) (Y := A) (by omega) (show -16 ≤ w by omega) w1 a0 a1
  exact mulb (by omega) h1 h2 b0 b1
structure NrmB (l : List Ms) : Prop where
  xx : -16777216 ≤ nXX l ∧ nXX l ≤ 16777216
  xy : -16777216 ≤ nXY l ∧ nXY l ≤ 16777216
  yy : -16777216 ≤ nYY l ∧ nYY l ≤ 16777216
  xz : -281474976710656 ≤ nXZ l ∧ nXZ l ≤ 281474976710656
  yz : -281474976710656 ≤ nYZ l ∧ nYZ l ≤ 281474976710656
theorem nrm_bd {l : List Ms} (h : OkL l) : NrmB l := by
  have t1 : ∀ m ∈ l, -1048576 ≤ m.w * m.a * m.a ∧ m.w * m.a * m.a ≤ 1048576 := fun m hm => by
    have o := h.ok m hm
    have := term2 (A := 256) (B := 256) (by omega) o.w0 o.w1 o.a0 o.a1 o.a0 o.a1
    omega
  have t2 : ∀ m ∈ l, -1048576 ≤ m.w * m.a * m.b ∧ m.w * m.a * m.b ≤ 1048576 := fun m hm => by
    have o := h.ok m hm
    have := term2 (A := 256) (B := 256) (by omega) o.w0 o.w1 o.a0 o.a1 o.b0 o.b1
    omega
  have t3 : ∀ m ∈ l, -1048576 ≤ m.w * m.b * m.b ∧ m.w * m.b * m.b ≤ 1048576 := fun m hm => by
    have o := h.ok m hm
    have := term2 (A := 256) (B := 256) (by omega) o.w0 o.w1 o.b0 o.b1 o.b0 o.b1
    omega
  have t4 : ∀ m ∈ l, -17592186044416 ≤ m.w * m.a * m.z ∧ m.w * m.a * m.z ≤ 17592186044416 := fun m hm => by
    have o := h.ok m hm
    have := term2 (A := 256) (B := 4294967296) (by omega) o.w0 o.w1 o.a0 o.a1 o.z0 o.z1
    omega
  have t5 : ∀ m ∈ l, -17592186044416 ≤ m.w * m.b * m.z ∧ m.w * m.b * m.z ≤ 17592186044416 := fun m hm => by
    have o := h.ok m hm
    have := term2 (A := 256) (B := 4294967296) (by omega) o.w0 o.w1 o.b0 o.b1 o.z0 o.z1
    omega
  have s1 := h.sum _ _ (by omega) t1
  have s2 := h.sum _ _ (by omega) t2
  have s3 := h.sum _ _ (by omega) t3
  have s4 := h.sum _ _ (by omega) t4
  have s5 := h.sum _ _ (by omega) t5
  exact ⟨by unfold nXX; omega, by unfold nXY; omega, by unfold nYY; omega, by unfold nXZ; omega, by unfold nYZ; omega⟩
structure SolB (l : List Ms) : Prop where
  det : -562949953421312 ≤ detN l ∧ detN l ≤ 562949953421312
  x : -9444732965739290427392 ≤ solX l ∧ solX l ≤ 9444732965739290427392
  y : -9444732965739290427392 ≤ solY l ∧ solY l ≤ 9444732965739290427392
theorem sol_bd {l : List Ms} (h : NrmB l) : SolB l := by
  obtain ⟨⟨a0, a1⟩, ⟨b0, b1⟩, ⟨c0, c1⟩, ⟨d0, d1⟩, ⟨e0, e1⟩⟩ := h
  have p1 := mulb (X := 16777216) (Y := 16777216) (by omega) a0 a1 c0 c1
  have p2 := mulb (X := 16777216) (Y := 16777216) (by omega) b0 b1 b0 b1
  have p3 := mulb (X := 16777216) (Y := 281474976710656) (by omega) c0 c1 d0 d1
  have p4 := mulb (X := 16777216) (Y := 281474976710656) (by omega) b0 b1 e0 e1
  have p5 := mulb (X := 16777216) (Y := 281474976710656) (by omega) a0 a1 e0 e1
  have p6 := mulb (X := 16777216) (Y := 281474976710656) (by omega) b0 b1 d0 d1
  exact ⟨by unfold detN; omega, by unfold solX; omega, by unfold solY; omega⟩
theorem absZ_le {x B : Int} (h0 : -B ≤ x) (h1 : x ≤ B) : absZ x ≤ B := by unfold absZ; split <;> omega
theorem absZ_ge (x : Int) : 0 ≤ absZ x := by unfold absZ; split <;> omega
/-- the noise of each measurement, with the coefficients u and v -/
theorem noi_term {m : Ms} (o : OkM m) {u v a b : Int} (hu0 : -16777216 ≤ u) (hu : u ≤ 16777216) (hv0 : -16777216 ≤ v) (hv : v ≤ 16777216) (ha0 : -256 ≤ a) (ha : a ≤ 256) (hb0 : -256 ≤ b) (hb : b ≤ 256) :
    0 ≤ absZ (u * a - v * b) ∧ absZ (u * a - v * b) ≤ 8589934592 ∧ 0 ≤ m.w * absZ (u * a - v * b) ∧ m.w * absZ (u * a - v * b) ≤ 137438953472 ∧ 0 ≤ m.w * absZ (u * a - v * b) * m.d ∧ m.w * absZ (u * a - v * b) * m.d ≤ 590295810358705651712 := by
  have p1 := mulb (X := 16777216) (Y := 256) (by omega) hu0 hu ha0 ha
  have p2 := mulb (X := 16777216) (Y := 256) (by omega) hv0 hv hb0 hb
  have l1 : absZ (u * a - v * b) ≤ 8589934592 := absZ_le (by omega) (by omega)
  have l0 := absZ_ge (u * a - v * b)
  generalize absZ (u * a - v * b) = c at *
  have w0 := o.w0
  have w1 := o.w1
  have d0 := o.d0
  have d1 := o.d1
  have q0 := Int.mul_nonneg (show 0 ≤ m.w by omega) l0
  have q1 := (mulb (X := 16) (Y := 8589934592) (x := m.w) (y := c) (by omega) (by omega) w1 (by omega) l1).2
  have r0 := Int.mul_nonneg q0 d0
  have r1 := (mulb (X := 137438953472) (Y := 4294967296) (x := m.w * c) (y := m.d) (by omega) (by omega) (by omega) (by omega) d1).2
  exact ⟨l0, l1, q0, by omega, r0, by omega⟩
end Go.Proofs.YtidelghgjibndaaGreat
namespace Go.Proofs.YtidelghgjibndaaGreat
set_option linter.unusedVariables false
open Go.RowKit
def frm (x lo hi : Int) : Bool := decide (lo ≤ x) && decide (x ≤ hi)
theorem from_any (x lo hi : Int) (w : World) : Calls Tryz.prog 33 #[.int .i64 x, .int .i64 lo, .int .i64 hi] w fun e w' => e = .returned (.bool (frm x lo hi)) ∧ Below w.heap.size w w' := by
  have E : frm x lo hi = (decide (lo ≤ x) && decide (x ≤ hi)) := rfl
  generalize frm x lo hi = r at *
  cases h : decide (lo ≤ x) <;> cases h2 : decide (x ≤ hi) <;> rw [h, h2] at E <;> simp at E <;> subst E
  all_goals
    go_enter Tryz.func33, Tryz.ntmps33
    go_wp2
    go_ret
    exact ⟨rfl, Below.refl _ _⟩
set_option maxHeartbeats 8000000 in
set_option maxRecDepth 100000 in
theorem ival_any (b : Bx4) (w : World) : Calls Tryz.prog 32 #[.agg #[.int .i64 b.cx, .int .i64 b.cy, .int .i64 b.x, .int .i64 b.y]] w fun e w' => e = .returned (.bool (bxV b)) ∧ Below w.heap.size w w' := by
  have VI0 := fun w => S41.inside_any b.cx b.cy b.x b.y b.cx b.cy w
  have E : S41.insB b.cx b.cy b.x b.y b.cx b.cy = bxV b := by
    rw [Bool.eq_iff_iff, S41.insB_iff, bxV_iff, S41.boxV_iff]
    omega
  rw [E] at VI0
  have VI := Lib.hid VI0
  clear E VI0
  generalize bxV b = v at *
  obtain ⟨cx, cy, x, y⟩ := b
  simp only at VI
  obtain ⟨KB, HB⟩ := ent1 w #[.int .i64 cx, .int .i64 cy, .int .i64 x, .int .i64 y] 26
  go_enter Tryz.func32, Tryz.ntmps32
  go_wp2_with fail
  generalize w.alloc (.cells #[.int .i64 cx, .int .i64 cy, .int .i64 x, .int .i64 y] 26) = w0 at *
  refine (VI.out _).mono ?_
  rintro e1 w1 ⟨rfl, hb1⟩
  replace HB := hT HB hb1
  replace KB := hK KB hb1
  clear hb1
  go_wp2
  go_ret
  exact ⟨rfl, HB.out⟩
theorem rngC_is (ve vn dr tk : Int) : rngC ve vn dr tk = (frm ve (-2000) 2000 && frm vn (-2000) 2000 && frm dr 0 1000 && frm tk 0 144000) := by
  rw [Bool.eq_iff_iff, rngC_iff]
  unfold frm
  simp only [Bool.and_eq_true, decide_eq_true_iff]
  omega
set_option maxHeartbeats 40000000 in
set_option maxRecDepth 100000 in
theorem coast_any (b : Bx4) (ve vn dr tk : Int) (w : World) : Calls Tryz.prog 14 #[.agg #[.int .i64 b.cx, .int .i64 b.cy, .int .i64 b.x, .int .i64 b.y], .agg #[.int .i64 ve, .int .i64 vn], .int .i64 dr, .int .i64 tk] w fun e w' => e = .returned (.tuple #[.agg #[.int .i64 (cstF b ve vn dr tk).1.cx, .int .i64 (cstF b ve vn dr tk).1.cy, .int .i64 (cstF b ve vn dr tk).1.x, .int .i64 (cstF b ve vn dr tk).1.y], .int .i64 (cstF b ve vn dr tk).2]) ∧ Below w.heap.size w w' := by
  have VA0 := fun w => ival_any b w
  have F0 := Lib.hid fun w => from_any ve (-2000) 2000 w
  have F1 := Lib.hid fun w => from_any vn (-2000) 2000 w
  have F2 := Lib.hid fun w => from_any dr 0 1000 w
  have F3 := Lib.hid fun w => from_any tk 0 144000 w
  have RI := rngC_is ve vn dr tk
  have EV0 : cstF b ve vn dr tk = if bxV b = true then (if rngC ve vn dr tk = true then (if bxV (movB b ve vn dr tk) = true then (movB b ve vn dr tk, 0) else (bx0, 2)) else (bx0, 2)) else (bx0, 1) := rfl
  cases hv : bxV b with
  | false =>
    rw [hv] at VA0
    have VA := Lib.hid VA0
    have EV := Lib.hid (EV0.trans (if_neg (by rw [hv]; decide)))
    clear EV0 VA0 hv RI F0 F1 F2 F3
    generalize cstF b ve vn dr tk = q at *
    obtain ⟨cx, cy, x, y⟩ := b
    simp only at VA
    obtain ⟨KB, KV, KZ, HB⟩ := ent3 w #[.int .i64 cx, .int .i64 cy, .int .i64 x, .int .i64 y] 26 #[.int .i64 ve, .int .i64 vn] 43 #[.int .i64 0, .int .i64 0, .int .i64 0, .int .i64 0] 26
    go_enter Tryz.func14, Tryz.ntmps14
    go_wp2_with fail
    generalize ((w.alloc (.cells #[.int .i64 cx, .int .i64 cy, .int .i64 x, .int .i64 y] 26)).alloc (.cells #[.int .i64 ve, .int .i64 vn] 43)).alloc (.cells #[.int .i64 0, .int .i64 0, .int .i64 0, .int .i64 0] 26) = w0 at *
    refine (VA.out _).mono ?_
    rintro e1 w1 ⟨rfl, hb1⟩
    replace HB := hT HB hb1
    replace KB := hK KB hb1
    replace KV := hK KV hb1
    replace KZ := hK KZ hb1
    clear hb1
    obtain ⟨yZ_0, yZ_1, yZ_2, yZ_3, yZ_z, yZ_f0, yZ_f1, yZ_f2, yZ_f3⟩ := blf4 KZ
    go_wp2
    have hs := st4 w1 (w.heap.size + 1 + 1) 0 (.int .i64 0) 1 (.int .i64 0) 2 (.int .i64 0) 3 (.int .i64 0)
    replace KB := oB hs KB (by omega)
    replace KV := oB hs KV (by omega)
    replace KZ := Lib.hid (blk_set (blk_set (blk_set (blk_set KZ.out (j := 0) (by simp) (.int .i64 0)) (j := 1) (by simp) (.int .i64 0)) (j := 2) (by simp) (.int .i64 0)) (j := 3) (by simp) (.int .i64 0))
    replace HB := oH hs HB (by omega)
    clear hs
    clear yZ_0 yZ_1 yZ_2 yZ_3 yZ_z yZ_f0 yZ_f1 yZ_f2 yZ_f3
    generalize (((w1.setCell ⟨(w.heap.size + 1 + 1), 0, none⟩ (.int .i64 0)).setCell ⟨(w.heap.size + 1 + 1), 1, none⟩ (.int .i64 0)).setCell ⟨(w.heap.size + 1 + 1), 2, none⟩ (.int .i64 0)).setCell ⟨(w.heap.size + 1 + 1), 3, none⟩ (.int .i64 0) = w2 at *
    simp only [List.set] at KZ
    obtain ⟨yZ_0, yZ_1, yZ_2, yZ_3, yZ_z⟩ := blk4 KZ
    refine bodyPost_ret (v := .tuple #[.agg #[.int .i64 0, .int .i64 0, .int .i64 0, .int .i64 0], .int .i64 1]) (by simp [results, Tryz.results14, go_sem, yZ_0, yZ_1, yZ_2, yZ_3]) rfl ⟨by rw [EV.out]; rfl, HB.out⟩
  | true =>
    rw [hv, if_pos rfl] at EV0
    rw [hv] at VA0
    have VA := Lib.hid VA0
    clear VA0
    have VB0 := fun w => ival_any (movB b ve vn dr tk) w
    by_cases hr : rngC ve vn dr tk = true
    · rw [if_pos hr] at EV0
      have R := rngC_iff.1 hr
      have BV := bxV_iff.1 hv
      rw [hr] at RI
      have k0 : frm ve (-2000) 2000 = true := by unfold frm; simp only [Bool.and_eq_true, decide_eq_true_iff]; omega
      have k1 : frm vn (-2000) 2000 = true := by unfold frm; simp only [Bool.and_eq_true, decide_eq_true_iff]; omega
      have k2 : frm dr 0 1000 = true := by unfold frm; simp only [Bool.and_eq_true, decide_eq_true_iff]; omega
      have k3 : frm tk 0 144000 = true := by unfold frm; simp only [Bool.and_eq_true, decide_eq_true_iff]; omega
      rw [k0] at F0
      rw [k1] at F1
      rw [k2] at F2
      rw [k3] at F3
      have p0 := mulb (X := 2000) (Y := 144000) (x := ve) (y := tk) (by omega) (by omega) (by omega) (by omega) (by omega)
      have p1 := mulb (X := 2000) (Y := 144000) (x := vn) (y := tk) (by omega) (by omega) (by omega) (by omega) (by omega)
      have p2 := mulb (X := 1000) (Y := 144000) (x := dr) (y := tk) (by omega) (by omega) (by omega) (by omega) (by omega)
      unfold movB at VB0 EV0
      obtain ⟨cx, cy, x, y⟩ := b
      simp only at VA VB0 EV0 BV
      have s0 : IntKind.i64.wrap (ve * tk) = ve * tk := IntWalk.i64_in _ (by omega)
      have s1 : IntKind.i64.wrap (vn * tk) = vn * tk := IntWalk.i64_in _ (by omega)
      have s2 : IntKind.i64.wrap (dr * tk) = dr * tk := IntWalk.i64_in _ (by omega)
      have t0 : IntKind.i64.wrap (cx + ve * tk) = cx + ve * tk := IntWalk.i64_in _ (by omega)
      have t1 : IntKind.i64.wrap (cy + vn * tk) = cy + vn * tk := IntWalk.i64_in _ (by omega)
      have t2 : IntKind.i64.wrap (x + dr * tk) = x + dr * tk := IntWalk.i64_in _ (by omega)
      have t3 : IntKind.i64.wrap (y + dr * tk) = y + dr * tk := IntWalk.i64_in _ (by omega)
      clear p0 p1 p2 R BV k0 k1 k2 k3 RI hr hv
      generalize cstF ⟨cx, cy, x, y⟩ ve vn dr tk = q at *
      obtain ⟨cx', e0⟩ : ∃ z, cx + ve * tk = z := ⟨_, rfl⟩
      obtain ⟨cy', e1⟩ : ∃ z, cy + vn * tk = z := ⟨_, rfl⟩
      obtain ⟨x', e2⟩ : ∃ z, x + dr * tk = z := ⟨_, rfl⟩
      obtain ⟨y', e3⟩ : ∃ z, y + dr * tk = z := ⟨_, rfl⟩
      rw [e0, e1, e2, e3] at EV0 VB0
      replace t0 := t0.trans e0
      replace t1 := t1.trans e1
      replace t2 := t2.trans e2
      replace t3 := t3.trans e3
      clear e0 e1 e2 e3
      cases hb : bxV ⟨cx', cy', x', y'⟩ with
      | false =>
        rw [hb] at VB0
        have EV := Lib.hid (EV0.trans (if_neg (by rw [hb]; decide)))
        have VB := Lib.hid VB0
        clear EV0 VB0 hb
        obtain ⟨KB, KV, KZ, HB⟩ := ent3 w #[.int .i64 cx, .int .i64 cy, .int .i64 x, .int .i64 y] 26 #[.int .i64 ve, .int .i64 vn] 43 #[.int .i64 0, .int .i64 0, .int .i64 0, .int .i64 0] 26
        go_enter Tryz.func14, Tryz.ntmps14
        go_wp2_with fail
        generalize ((w.alloc (.cells #[.int .i64 cx, .int .i64 cy, .int .i64 x, .int .i64 y] 26)).alloc (.cells #[.int .i64 ve, .int .i64 vn] 43)).alloc (.cells #[.int .i64 0, .int .i64 0, .int .i64 0, .int .i64 0] 26) = w0 at *
        refine (VA.out _).mono ?_
        rintro e1 w1 ⟨rfl, hb1⟩
        replace HB := hT HB hb1
        replace KB := hK KB hb1
        replace KV := hK KV hb1
        replace KZ := hK KZ hb1
        clear hb1
        obtain ⟨yV_0, yV_1, yV_z⟩ := blk2 KV
        go_wp2_with fail
        refine (F0.out _).mono ?_
        rintro e2 w2 ⟨rfl, hb2⟩
        replace HB := hT HB hb2
        replace KB := hK KB hb2
        replace KV := hK KV hb2
        replace KZ := hK KZ hb2
        clear yV_0 yV_1 yV_z
        clear hb2
        obtain ⟨yV_0, yV_1, yV_z⟩ := blk2 KV
        go_wp2_with fail
        refine (F1.out _).mono ?_
        rintro e3 w3 ⟨rfl, hb3⟩
        replace HB := hT HB hb3
        replace KB := hK KB hb3
        replace KV := hK KV hb3
        replace KZ := hK KZ hb3
        clear yV_0 yV_1 yV_z
        clear hb3
        obtain ⟨yV_0, yV_1, yV_z⟩ := blk2 KV
        go_wp2_with fail
        refine (F2.out _).mono ?_
        rintro e4 w4 ⟨rfl, hb4⟩
        replace HB := hT HB hb4
        replace KB := hK KB hb4
        replace KV := hK KV hb4
        replace KZ := hK KZ hb4
        clear yV_0 yV_1 yV_z
        clear hb4
        obtain ⟨yV_0, yV_1, yV_z⟩ := blk2 KV
        go_wp2_with fail
        refine (F3.out _).mono ?_
        rintro e5 w5 ⟨rfl, hb5⟩
        replace HB := hT HB hb5
        replace KB := hK KB hb5
        replace KV := hK KV hb5
        replace KZ := hK KZ hb5
        clear yV_0 yV_1 yV_z
        clear hb5
        obtain ⟨yB_0, yB_1, yB_2, yB_3, yB_z, yB_f0, yB_f1, yB_f2, yB_f3⟩ := blf4 KB
        obtain ⟨yV_0, yV_1, yV_z⟩ := blk2 KV
        go_wp2_with fail
        have hs := st4 w5 w.heap.size 0 (.int .i64 (cx')) 1 (.int .i64 (cy')) 2 (.int .i64 (x')) 3 (.int .i64 (y'))
        replace KB := Lib.hid (blk_set (blk_set (blk_set (blk_set KB.out (j := 0) (by simp) (.int .i64 (cx'))) (j := 1) (by simp) (.int .i64 (cy'))) (j := 2) (by simp) (.int .i64 (x'))) (j := 3) (by simp) (.int .i64 (y')))
        replace KV := oB hs KV (by omega)
        replace KZ := oB hs KZ (by omega)
        replace HB := oH hs HB (by omega)
        clear hs
        clear yB_0 yB_1 yB_2 yB_3 yB_z yB_f0 yB_f1 yB_f2 yB_f3 yV_0 yV_1 yV_z
        generalize (((w5.setCell ⟨w.heap.size, 0, none⟩ (.int .i64 (cx'))).setCell ⟨w.heap.size, 1, none⟩ (.int .i64 (cy'))).setCell ⟨w.heap.size, 2, none⟩ (.int .i64 (x'))).setCell ⟨w.heap.size, 3, none⟩ (.int .i64 (y')) = w6 at *
        simp only [List.set] at KB
        refine (VB.out _).mono ?_
        rintro e7 w7 ⟨rfl, hb7⟩
        replace HB := hT HB hb7
        replace KB := hK KB hb7
        replace KV := hK KV hb7
        replace KZ := hK KZ hb7
        clear hb7
        obtain ⟨yZ_0, yZ_1, yZ_2, yZ_3, yZ_z, yZ_f0, yZ_f1, yZ_f2, yZ_f3⟩ := blf4 KZ
        go_wp2
        have hs := st4 w7 (w.heap.size + 1 + 1) 0 (.int .i64 0) 1 (.int .i64 0) 2 (.int .i64 0) 3 (.int .i64 0)
        replace KB := oB hs KB (by omega)
        replace KV := oB hs KV (by omega)
        replace KZ := Lib.hid (blk_set (blk_set (blk_set (blk_set KZ.out (j := 0) (by simp) (.int .i64 0)) (j := 1) (by simp) (.int .i64 0)) (j := 2) (by simp) (.int .i64 0)) (j := 3) (by simp) (.int .i64 0))
        replace HB := oH hs HB (by omega)
        clear hs
        clear yZ_0 yZ_1 yZ_2 yZ_3 yZ_z yZ_f0 yZ_f1 yZ_f2 yZ_f3
        generalize (((w7.setCell ⟨(w.heap.size + 1 + 1), 0, none⟩ (.int .i64 0)).setCell ⟨(w.heap.size + 1 + 1), 1, none⟩ (.int .i64 0)).setCell ⟨(w.heap.size + 1 + 1), 2, none⟩ (.int .i64 0)).setCell ⟨(w.heap.size + 1 + 1), 3, none⟩ (.int .i64 0) = w8 at *
        simp only [List.set] at KZ
        obtain ⟨yZ_0, yZ_1, yZ_2, yZ_3, yZ_z⟩ := blk4 KZ
        refine bodyPost_ret (v := .tuple #[.agg #[.int .i64 0, .int .i64 0, .int .i64 0, .int .i64 0], .int .i64 2]) (by simp [results, Tryz.results14, go_sem, yZ_0, yZ_1, yZ_2, yZ_3]) rfl ⟨by rw [EV.out]; rfl, HB.out⟩
      | true =>
        rw [hb] at VB0
        have EV := Lib.hid (EV0.trans (if_pos hb))
        have VB := Lib.hid VB0
        clear EV0 VB0 hb
        obtain ⟨KB, KV, KZ, HB⟩ := ent3 w #[.int .i64 cx, .int .i64 cy, .int .i64 x, .int .i64 y] 26 #[.int .i64 ve, .int .i64 vn] 43 #[.int .i64 0, .int .i64 0, .int .i64 0, .int .i64 0] 26
        go_enter Tryz.func14, Tryz.ntmps14
        go_wp2_with fail
        generalize ((w.alloc (.cells #[.int .i64 cx, .int .i64 cy, .int .i64 x, .int .i64 y] 26)).alloc (.cells #[.int .i64 ve, .int .i64 vn] 43)).alloc (.cells #[.int .i64 0, .int .i64 0, .int .i64 0, .int .i64 0] 26) = w0 at *
        refine (VA.out _).mono ?_
        rintro e1 w1 ⟨rfl, hb1⟩
        replace HB := hT HB hb1
        replace KB := hK KB hb1
        replace KV := hK KV hb1
        replace KZ := hK KZ hb1
        clear hb1
        obtain ⟨yV_0, yV_1, yV_z⟩ := blk2 KV
        go_wp2_with fail
        refine (F0.out _).mono ?_
        rintro e2 w2 ⟨rfl, hb2⟩
        replace HB := hT HB hb2
        replace KB := hK KB hb2
        replace KV := hK KV hb2
        replace KZ := hK KZ hb2
        clear yV_0 yV_1 yV_z
        clear hb2
        obtain ⟨yV_0, yV_1, yV_z⟩ := blk2 KV
        go_wp2_with fail
        refine (F1.out _).mono ?_
        rintro e3 w3 ⟨rfl, hb3⟩
        replace HB := hT HB hb3
        replace KB := hK KB hb3
        replace KV := hK KV hb3
        replace KZ := hK KZ hb3
        clear yV_0 yV_1 yV_z
        clear hb3
        obtain ⟨yV_0, yV_1, yV_z⟩ := blk2 KV
        go_wp2_with fail
        refine (F2.out _).mono ?_
        rintro e4 w4 ⟨rfl, hb4⟩
        replace HB := hT HB hb4
        replace KB := hK KB hb4
        replace KV := hK KV hb4
        replace KZ := hK KZ hb4
        clear yV_0 yV_1 yV_z
        clear hb4
        obtain ⟨yV_0, yV_1, yV_z⟩ := blk2 KV
        go_wp2_with fail
        refine (F3.out _).mono ?_
        rintro e5 w5 ⟨rfl, hb5⟩
        replace HB := hT HB hb5
        replace KB := hK KB hb5
        replace KV := hK KV hb5
        replace KZ := hK KZ hb5
        clear yV_0 yV_1 yV_z
        clear hb5
        obtain ⟨yB_0, yB_1, yB_2, yB_3, yB_z, yB_f0, yB_f1, yB_f2, yB_f3⟩ := blf4 KB
        obtain ⟨yV_0, yV_1, yV_z⟩ := blk2 KV
        go_wp2_with fail
        have hs := st4 w5 w.heap.size 0 (.int .i64 (cx')) 1 (.int .i64 (cy')) 2 (.int .i64 (x')) 3 (.int .i64 (y'))
        replace KB := Lib.hid (blk_set (blk_set (blk_set (blk_set KB.out (j := 0) (by simp) (.int .i64 (cx'))) (j := 1) (by simp) (.int .i64 (cy'))) (j := 2) (by simp) (.int .i64 (x'))) (j := 3) (by simp) (.int .i64 (y')))
        replace KV := oB hs KV (by omega)
        replace KZ := oB hs KZ (by omega)
        replace HB := oH hs HB (by omega)
        clear hs
        clear yB_0 yB_1 yB_2 yB_3 yB_z yB_f0 yB_f1 yB_f2 yB_f3 yV_0 yV_1 yV_z
        generalize (((w5.setCell ⟨w.heap.size, 0, none⟩ (.int .i64 (cx'))).setCell ⟨w.heap.size, 1, none⟩ (.int .i64 (cy'))).setCell ⟨w.heap.size, 2, none⟩ (.int .i64 (x'))).setCell ⟨w.heap.size, 3, none⟩ (.int .i64 (y')) = w6 at *
        simp only [List.set] at KB
        refine (VB.out _).mono ?_
        rintro e7 w7 ⟨rfl, hb7⟩
        replace HB := hT HB hb7
        replace KB := hK KB hb7
        replace KV := hK KV hb7
        replace KZ := hK KZ hb7
        clear hb7
        obtain ⟨yB_0, yB_1, yB_2, yB_3, yB_z⟩ := blk4 KB
        obtain ⟨yZ_0, yZ_1, yZ_2, yZ_3, yZ_z, yZ_f0, yZ_f1, yZ_f2, yZ_f3⟩ := blf4 KZ
        go_wp2
        have hs := st4 w7 (w.heap.size + 1 + 1) 0 (.int .i64 (cx')) 1 (.int .i64 (cy')) 2 (.int .i64 (x')) 3 (.int .i64 (y'))
        replace KB := oB hs KB (by omega)
        replace KV := oB hs KV (by omega)
        replace KZ := Lib.hid (blk_set (blk_set (blk_set (blk_set KZ.out (j := 0) (by simp) (.int .i64 (cx'))) (j := 1) (by simp) (.int .i64 (cy'))) (j := 2) (by simp) (.int .i64 (x'))) (j := 3) (by simp) (.int .i64 (y')))
        replace HB := oH hs HB (by omega)
        clear hs
        clear yB_0 yB_1 yB_2 yB_3 yB_z yZ_0 yZ_1 yZ_2 yZ_3 yZ_z yZ_f0 yZ_f1 yZ_f2 yZ_f3
        generalize (((w7.setCell ⟨(w.heap.size + 1 + 1), 0, none⟩ (.int .i64 (cx'))).setCell ⟨(w.heap.size + 1 + 1), 1, none⟩ (.int .i64 (cy'))).setCell ⟨(w.heap.size + 1 + 1), 2, none⟩ (.int .i64 (x'))).setCell ⟨(w.heap.size + 1 + 1), 3, none⟩ (.int .i64 (y')) = w8 at *
        simp only [List.set] at KZ
        obtain ⟨yZ_0, yZ_1, yZ_2, yZ_3, yZ_z⟩ := blk4 KZ
        refine bodyPost_ret (v := .tuple #[.agg #[.int .i64 (cx'), .int .i64 (cy'), .int .i64 (x'), .int .i64 (y')], .int .i64 0]) (by simp [results, Tryz.results14, go_sem, yZ_0, yZ_1, yZ_2, yZ_3]) rfl ⟨by rw [EV.out], HB.out⟩
    · have EV := Lib.hid (EV0.trans (if_neg hr))
      have hr' : rngC ve vn dr tk = false := by simpa using hr
      rw [hr'] at RI
      clear EV0 VB0 hr hr' hv
      generalize cstF b ve vn dr tk = q at *
      obtain ⟨cx, cy, x, y⟩ := b
      simp only at VA
      generalize frm ve (-2000) 2000 = b0 at *
      generalize frm vn (-2000) 2000 = b1 at *
      generalize frm dr 0 1000 = b2 at *
      generalize frm tk 0 144000 = b3 at *
      cases b0 with
      | false =>
        clear RI F1 F2 F3
        obtain ⟨KB, KV, KZ, HB⟩ := ent3 w #[.int .i64 cx, .int .i64 cy, .int .i64 x, .int .i64 y] 26 #[.int .i64 ve, .int .i64 vn] 43 #[.int .i64 0, .int .i64 0, .int .i64 0, .int .i64 0] 26
        go_enter Tryz.func14, Tryz.ntmps14
        go_wp2_with fail
        generalize ((w.alloc (.cells #[.int .i64 cx, .int .i64 cy, .int .i64 x, .int .i64 y] 26)).alloc (.cells #[.int .i64 ve, .int .i64 vn] 43)).alloc (.cells #[.int .i64 0, .int .i64 0, .int .i64 0, .int .i64 0] 26) = w0 at *
        refine (VA.out _).mono ?_
        rintro e1 w1 ⟨rfl, hb1⟩
        replace HB := hT HB hb1
        replace KB := hK KB hb1
        replace KV := hK KV hb1
        replace KZ := hK KZ hb1
        clear hb1
        obtain ⟨yV_0, yV_1, yV_z⟩ := blk2 KV
        go_wp2_with fail
        refine (F0.out _).mono ?_
        rintro e2 w2 ⟨rfl, hb2⟩
        replace HB := hT HB hb2
        replace KB := hK KB hb2
        replace KV := hK KV hb2
        replace KZ := hK KZ hb2
        clear yV_0 yV_1 yV_z
        clear hb2
        obtain ⟨yZ_0, yZ_1, yZ_2, yZ_3, yZ_z, yZ_f0, yZ_f1, yZ_f2, yZ_f3⟩ := blf4 KZ
        go_wp2
        have hs := st4 w2 (w.heap.size + 1 + 1) 0 (.int .i64 0) 1 (.int .i64 0) 2 (.int .i64 0) 3 (.int .i64 0)
        replace KB := oB hs KB (by omega)
        replace KV := oB hs KV (by omega)
        replace KZ := Lib.hid (blk_set (blk_set (blk_set (blk_set KZ.out (j := 0) (by simp) (.int .i64 0)) (j := 1) (by simp) (.int .i64 0)) (j := 2) (by simp) (.int .i64 0)) (j := 3) (by simp) (.int .i64 0))
        replace HB := oH hs HB (by omega)
        clear hs
        clear yZ_0 yZ_1 yZ_2 yZ_3 yZ_z yZ_f0 yZ_f1 yZ_f2 yZ_f3
        generalize (((w2.setCell ⟨(w.heap.size + 1 + 1), 0, none⟩ (.int .i64 0)).setCell ⟨(w.heap.size + 1 + 1), 1, none⟩ (.int .i64 0)).setCell ⟨(w.heap.size + 1 + 1), 2, none⟩ (.int .i64 0)).setCell ⟨(w.heap.size + 1 + 1), 3, none⟩ (.int .i64 0) = w3 at *
        simp only [List.set] at KZ
        obtain ⟨yZ_0, yZ_1, yZ_2, yZ_3, yZ_z⟩ := blk4 KZ
        refine bodyPost_ret (v := .tuple #[.agg #[.int .i64 0, .int .i64 0, .int .i64 0, .int .i64 0], .int .i64 2]) (by simp [results, Tryz.results14, go_sem, yZ_0, yZ_1, yZ_2, yZ_3]) rfl ⟨by rw [EV.out]; rfl, HB.out⟩
      | true =>
        cases b1 with
        | false =>
          clear RI F2 F3
          obtain ⟨KB, KV, KZ, HB⟩ := ent3 w #[.int .i64 cx, .int .i64 cy, .int .i64 x, .int .i64 y] 26 #[.int .i64 ve, .int .i64 vn] 43 #[.int .i64 0, .int .i64 0, .int .i64 0, .int .i64 0] 26
          go_enter Tryz.func14, Tryz.ntmps14
          go_wp2_with fail
          generalize ((w.alloc (.cells #[.int .i64 cx, .int .i64 cy, .int .i64 x, .int .i64 y] 26)).alloc (.cells #[.int .i64 ve, .int .i64 vn] 43)).alloc (.cells #[.int .i64 0, .int .i64 0, .int .i64 0, .int .i64 0] 26) = w0 at *
          refine (VA.out _).mono ?_
          rintro e1 w1 ⟨rfl, hb1⟩
          replace HB := hT HB hb1
          replace KB := hK KB hb1
          replace KV := hK KV hb1
          replace KZ := hK KZ hb1
          clear hb1
          obtain ⟨yV_0, yV_1, yV_z⟩ := blk2 KV
          go_wp2_with fail
          refine (F0.out _).mono ?_
          rintro e2 w2 ⟨rfl, hb2⟩
          replace HB := hT HB hb2
          replace KB := hK KB hb2
          replace KV := hK KV hb2
          replace KZ := hK KZ hb2
          clear yV_0 yV_1 yV_z
          clear hb2
          obtain ⟨yV_0, yV_1, yV_z⟩ := blk2 KV
          go_wp2_with fail
          refine (F1.out _).mono ?_
          rintro e3 w3 ⟨rfl, hb3⟩
          replace HB := hT HB hb3
          replace KB := hK KB hb3
          replace KV := hK KV hb3
          replace KZ := hK KZ hb3
          clear yV_0 yV_1 yV_z
          clear hb3
          obtain ⟨yZ_0, yZ_1, yZ_2, yZ_3, yZ_z, yZ_f0, yZ_f1, yZ_f2, yZ_f3⟩ := blf4 KZ
          go_wp2
          have hs := st4 w3 (w.heap.size + 1 + 1) 0 (.int .i64 0) 1 (.int .i64 0) 2 (.int .i64 0) 3 (.int .i64 0)
          replace KB := oB hs KB (by omega)
          replace KV := oB hs KV (by omega)
          replace KZ := Lib.hid (blk_set (blk_set (blk_set (blk_set KZ.out (j := 0) (by simp) (.int .i64 0)) (j := 1) (by simp) (.int .i64 0)) (j := 2) (by simp) (.int .i64 0)) (j := 3) (by simp) (.int .i64 0))
          replace HB := oH hs HB (by omega)
          clear hs
          clear yZ_0 yZ_1 yZ_2 yZ_3 yZ_z yZ_f0 yZ_f1 yZ_f2 yZ_f3
          generalize (((w3.setCell ⟨(w.heap.size + 1 + 1), 0, none⟩ (.int .i64 0)).setCell ⟨(w.heap.size + 1 + 1), 1, none⟩ (.int .i64 0)).setCell ⟨(w.heap.size + 1 + 1), 2, none⟩ (.int .i64 0)).setCell ⟨(w.heap.size + 1 + 1), 3, none⟩ (.int .i64 0) = w4 at *
          simp only [List.set] at KZ
          obtain ⟨yZ_0, yZ_1, yZ_2, yZ_3, yZ_z⟩ := blk4 KZ
          refine bodyPost_ret (v := .tuple #[.agg #[.int .i64 0, .int .i64 0, .int .i64 0, .int .i64 0], .int .i64 2]) (by simp [results, Tryz.results14, go_sem, yZ_0, yZ_1, yZ_2, yZ_3]) rfl ⟨by rw [EV.out]; rfl, HB.out⟩
        | true =>
          cases b2 with
          | false =>
            clear RI F3
            obtain ⟨KB, KV, KZ, HB⟩ := ent3 w #[.int .i64 cx, .int .i64 cy, .int .i64 x, .int .i64 y] 26 #[.int .i64 ve, .int .i64 vn] 43 #[.int .i64 0, .int .i64 0, .int .i64 0, .int .i64 0] 26
            go_enter Tryz.func14, Tryz.ntmps14
            go_wp2_with fail
            generalize ((w.alloc (.cells #[.int .i64 cx, .int .i64 cy, .int .i64 x, .int .i64 y] 26)).alloc (.cells #[.int .i64 ve, .int .i64 vn] 43)).alloc (.cells #[.int .i64 0, .int .i64 0, .int .i64 0, .int .i64 0] 26) = w0 at *
            refine (VA.out _).mono ?_
            rintro e1 w1 ⟨rfl, hb1⟩
            replace HB := hT HB hb1
            replace KB := hK KB hb1
            replace KV := hK KV hb1
            replace KZ := hK KZ hb1
            clear hb1
            obtain ⟨yV_0, yV_1, yV_z⟩ := blk2 KV
            go_wp2_with fail
            refine (F0.out _).mono ?_
            rintro e2 w2 ⟨rfl, hb2⟩
            replace HB := hT HB hb2
            replace KB := hK KB hb2
            replace KV := hK KV hb2
            replace KZ := hK KZ hb2
            clear yV_0 yV_1 yV_z
            clear hb2
            obtain ⟨yV_0, yV_1, yV_z⟩ := blk2 KV
            go_wp2_with fail
            refine (F1.out _).mono ?_
            rintro e3 w3 ⟨rfl, hb3⟩
            replace HB := hT HB hb3
            replace KB := hK KB hb3
            replace KV := hK KV hb3
            replace KZ := hK KZ hb3
            clear yV_0 yV_1 yV_z
            clear hb3
            obtain ⟨yV_0, yV_1, yV_z⟩ := blk2 KV
            go_wp2_with fail
            refine (F2.out _).mono ?_
            rintro e4 w4 ⟨rfl, hb4⟩
            replace HB := hT HB hb4
            replace KB := hK KB hb4
            replace KV := hK KV hb4
            replace KZ := hK KZ hb4
            clear yV_0 yV_1 yV_z
            clear hb4
            obtain ⟨yZ_0, yZ_1, yZ_2, yZ_3, yZ_z, yZ_f0, yZ_f1, yZ_f2, yZ_f3⟩ := blf4 KZ
            go_wp2
            have hs := st4 w4 (w.heap.size + 1 + 1) 0 (.int .i64 0) 1 (.int .i64 0) 2 (.int .i64 0) 3 (.int .i64 0)
            replace KB := oB hs KB (by omega)
            replace KV := oB hs KV (by omega)
            replace KZ := Lib.hid (blk_set (blk_set (blk_set (blk_set KZ.out (j := 0) (by simp) (.int .i64 0)) (j := 1) (by simp) (.int .i64 0)) (j := 2) (by simp) (.int .i64 0)) (j := 3) (by simp) (.int .i64 0))
            replace HB := oH hs HB (by omega)
            clear hs
            clear yZ_0 yZ_1 yZ_2 yZ_3 yZ_z yZ_f0 yZ_f1 yZ_f2 yZ_f3
            generalize (((w4.setCell ⟨(w.heap.size + 1 + 1), 0, none⟩ (.int .i64 0)).setCell ⟨(w.heap.size + 1 + 1), 1, none⟩ (.int .i64 0)).setCell ⟨(w.heap.size + 1 + 1), 2, none⟩ (.int .i64 0)).setCell ⟨(w.heap.size + 1 + 1), 3, none⟩ (.int .i64 0) = w5 at *
            simp only [List.set] at KZ
            obtain ⟨yZ_0, yZ_1, yZ_2, yZ_3, yZ_z⟩ := blk4 KZ
            refine bodyPost_ret (v := .tuple #[.agg #[.int .i64 0, .int .i64 0, .int .i64 0, .int .i64 0], .int .i64 2]) (by simp [results, Tryz.results14, go_sem, yZ_0, yZ_1, yZ_2, yZ_3]) rfl ⟨by rw [EV.out]; rfl, HB.out⟩
          | true =>
            cases b3 with
            | true => cases RI
            | false =>
              clear RI
              obtain ⟨KB, KV, KZ, HB⟩ := ent3 w #[.int .i64 cx, .int .i64 cy, .int .i64 x, .int .i64 y] 26 #[.int .i64 ve, .int .i64 vn] 43 #[.int .i64 0, .int .i64 0, .int .i64 0, .int .i64 0] 26
              go_enter Tryz.func14, Tryz.ntmps14
              go_wp2_with fail
              generalize ((w.alloc (.cells #[.int .i64 cx, .int .i64 cy, .int .i64 x, .int .i64 y] 26)).alloc (.cells #[.int .i64 ve, .int .i64 vn] 43)).alloc (.cells #[.int .i64 0, .int .i64 0, .int .i64 0, .int .i64 0] 26) = w0 at *
              refine (VA.out _).mono ?_
              rintro e1 w1 ⟨rfl, hb1⟩
              replace HB := hT HB hb1
              replace KB := hK KB hb1
              replace KV := hK KV hb1
              replace KZ := hK KZ hb1
              clear hb1
              obtain ⟨yV_0, yV_1, yV_z⟩ := blk2 KV
              go_wp2_with fail
              refine (F0.out _).mono ?_
              rintro e2 w2 ⟨rfl, hb2⟩
              replace HB := hT HB hb2
              replace KB := hK KB hb2
              replace KV := hK KV hb2
              replace KZ := hK KZ hb2
              clear yV_0 yV_1 yV_z
              clear hb2
              obtain ⟨yV_0, yV_1, yV_z⟩ := blk2 KV
              go_wp2_with fail
              refine (F1.out _).mono ?_
              rintro e3 w3 ⟨rfl, hb3⟩
              replace HB := hT HB hb3
              replace KB := hK KB hb3
              replace KV := hK KV hb3
              replace KZ := hK KZ hb3
              clear yV_0 yV_1 yV_z
              clear hb3
              obtain ⟨yV_0, yV_1, yV_z⟩ := blk2 KV
              go_wp2_with fail
              refine (F2.out _).mono ?_
              rintro e4 w4 ⟨rfl, hb4⟩
              replace HB := hT HB hb4
              replace KB := hK KB hb4
              replace KV := hK KV hb4
              replace KZ := hK KZ hb4
              clear yV_0 yV_1 yV_z
              clear hb4
              obtain ⟨yV_0, yV_1, yV_z⟩ := blk2 KV
              go_wp2_with fail
              refine (F3.out _).mono ?_
              rintro e5 w5 ⟨rfl, hb5⟩
              replace HB := hT HB hb5
              replace KB := hK KB hb5
              replace KV := hK KV hb5
              replace KZ := hK KZ hb5
              clear yV_0 yV_1 yV_z
              clear hb5
              obtain ⟨yZ_0, yZ_1, yZ_2, yZ_3, yZ_z, yZ_f0, yZ_f1, yZ_f2, yZ_f3⟩ := blf4 KZ
              go_wp2
              have hs := st4 w5 (w.heap.size + 1 + 1) 0 (.int .i64 0) 1 (.int .i64 0) 2 (.int .i64 0) 3 (.int .i64 0)
              replace KB := oB hs KB (by omega)
              replace KV := oB hs KV (by omega)
              replace KZ := Lib.hid (blk_set (blk_set (blk_set (blk_set KZ.out (j := 0) (by simp) (.int .i64 0)) (j := 1) (by simp) (.int .i64 0)) (j := 2) (by simp) (.int .i64 0)) (j := 3) (by simp) (.int .i64 0))
              replace HB := oH hs HB (by omega)
              clear hs
              clear yZ_0 yZ_1 yZ_2 yZ_3 yZ_z yZ_f0 yZ_f1 yZ_f2 yZ_f3
              generalize (((w5.setCell ⟨(w.heap.size + 1 + 1), 0, none⟩ (.int .i64 0)).setCell ⟨(w.heap.size + 1 + 1), 1, none⟩ (.int .i64 0)).setCell ⟨(w.heap.size + 1 + 1), 2, none⟩ (.int .i64 0)).setCell ⟨(w.heap.size + 1 + 1), 3, none⟩ (.int .i64 0) = w6 at *
              simp only [List.set] at KZ
              obtain ⟨yZ_0, yZ_1, yZ_2, yZ_3, yZ_z⟩ := blk4 KZ
              refine bodyPost_ret (v := .tuple #[.agg #[.int .i64 0, .int .i64 0, .int .i64 0, .int .i64 0], .int .i64 2]) (by simp [results, Tryz.results14, go_sem, yZ_0, yZ_1, yZ_2, yZ_3]) rfl ⟨by rw [EV.out]; rfl, HB.out⟩
end Go.Proofs.YtidelghgjibndaaGreat
namespace Go.Proofs.YtidelghgjibndaaGreat
set_option linter.unusedVariables false
open Go.RowKit
set_option maxHeartbeats 8000000 in
set_option maxRecDepth 100000 in
theorem ovl_any (a x b y : Int) (w : World) (ha : -2000000 ≤ a ∧ a ≤ 2000000) (hx : 0 ≤ x ∧ x ≤ 2000000) (hb : -2000000 ≤ b ∧ b ≤ 2000000) (hy : 0 ≤ y ∧ y ≤ 2000000) :
    Calls Tryz.prog 94 #[.int .i64 a, .int .i64 x, .int .i64 b, .int .i64 y] w fun e w' => e = .returned (.tuple #[.int .i64 (ovM a x b y), .int .i64 (ovH a x b y - ovM a x b y), .bool (decide (ovL a x b y ≤ ovH a x b y))]) ∧ Below w.heap.size w w' := by
  obtain ⟨a0, a1⟩ := ha
  obtain ⟨x0, x1⟩ := hx
  obtain ⟨b0, b1⟩ := hb
  obtain ⟨y0, y1⟩ := hy
  have EL := Lib.hid (show ovL a x b y = max (a - x) (b - y) from rfl)
  have EH := Lib.hid (show ovH a x b y = min (a + x) (b + y) from rfl)
  have EM := Lib.hid (show ovM a x b y = (max (a - x) (b - y) + min (a + x) (b + y)) / 2 from rfl)
  go_enter Tryz.func94, Tryz.ntmps94
  go_wp2
  go_ret3
  rw [EL.out, EH.out, EM.out]
  exact ⟨rfl, Below.refl _ _⟩
set_option maxHeartbeats 40000000 in
set_option maxRecDepth 100000 in
theorem merge_any (a b : Bx4) (w : World) : Calls Tryz.prog 63 #[.agg #[.int .i64 a.cx, .int .i64 a.cy, .int .i64 a.x, .int .i64 a.y], .agg #[.int .i64 b.cx, .int .i64 b.cy, .int .i64 b.x, .int .i64 b.y]] w fun e w' => e = .returned (.tuple #[.agg #[.int .i64 (mrgF a b).1.cx, .int .i64 (mrgF a b).1.cy, .int .i64 (mrgF a b).1.x, .int .i64 (mrgF a b).1.y], .int .i64 (mrgF a b).2]) ∧ Below w.heap.size w w' := by
  have VA0 := fun w => ival_any a w
  have VB0 := fun w => ival_any b w
  have EV0 : mrgF a b = if bxV a = true then (if bxV b = true then (if ovL a.cx a.x b.cx b.x ≤ ovH a.cx a.x b.cx b.x ∧ ovL a.cy a.y b.cy b.y ≤ ovH a.cy a.y b.cy b.y then (mrgB a b, 0) else (bx0, 11)) else (bx0, 1)) else (bx0, 1) := rfl
  cases hv : bxV a with
  | false =>
    rw [hv] at VA0
    have VA := Lib.hid VA0
    have EV := Lib.hid (EV0.trans (if_neg (by rw [hv]; decide)))
    clear EV0 VA0 hv VB0
    generalize mrgF a b = q at *
    obtain ⟨ax, ay, a1, a2⟩ := a
    obtain ⟨bx, by', b1, b2⟩ := b
    simp only at VA
    obtain ⟨KA, KB, KZ, HB⟩ := ent3 w #[.int .i64 ax, .int .i64 ay, .int .i64 a1, .int .i64 a2] 26 #[.int .i64 bx, .int .i64 (by'), .int .i64 b1, .int .i64 b2] 26 #[.int .i64 0, .int .i64 0, .int .i64 0, .int .i64 0] 26
    go_enter Tryz.func63, Tryz.ntmps63
    go_wp2_with fail
    generalize ((w.alloc (.cells #[.int .i64 ax, .int .i64 ay, .int .i64 a1, .int .i64 a2] 26)).alloc (.cells #[.int .i64 bx, .int .i64 (by'), .int .i64 b1, .int .i64 b2] 26)).alloc (.cells #[.int .i64 0, .int .i64 0, .int .i64 0, .int .i64 0] 26) = w0 at *
    refine (VA.out _).mono ?_
    rintro e1 w1 ⟨rfl, hb1⟩
    replace HB := hT HB hb1
    replace KA := hK KA hb1
    replace KB := hK KB hb1
    replace KZ := hK KZ hb1
    clear hb1
    obtain ⟨yZ_0, yZ_1, yZ_2, yZ_3, yZ_z, yZ_f0, yZ_f1, yZ_f2, yZ_f3⟩ := blf4 KZ
    go_wp2
    have hs := st4 w1 (w.heap.size + 1 + 1) 0 (.int .i64 0) 1 (.int .i64 0) 2 (.int .i64 0) 3 (.int .i64 0)
    replace KA := oB hs KA (by omega)
    replace KB := oB hs KB (by omega)
    replace KZ := Lib.hid (blk_set (blk_set (blk_set (blk_set KZ.out (j := 0) (by simp) (.int .i64 0)) (j := 1) (by simp) (.int .i64 0)) (j := 2) (by simp) (.int .i64 0)) (j := 3) (by simp) (.int .i64 0))
    replace HB := oH hs HB (by omega)
    clear hs
    clear yZ_0 yZ_1 yZ_2 yZ_3 yZ_z yZ_f0 yZ_f1 yZ_f2 yZ_f3
    generalize (((w1.setCell ⟨(w.heap.size + 1 + 1), 0, none⟩ (.int .i64 0)).setCell ⟨(w.heap.size + 1 + 1), 1, none⟩ (.int .i64 0)).setCell ⟨(w.heap.size + 1 + 1), 2, none⟩ (.int .i64 0)).setCell ⟨(w.heap.size + 1 + 1), 3, none⟩ (.int .i64 0) = w2 at *
    simp only [List.set] at KZ
    obtain ⟨yZ_0, yZ_1, yZ_2, yZ_3, yZ_z⟩ := blk4 KZ
    refine bodyPost_ret (v := .tuple #[.agg #[.int .i64 0, .int .i64 0, .int .i64 0, .int .i64 0], .int .i64 1]) (by simp [results, Tryz.results63, go_sem, yZ_0, yZ_1, yZ_2, yZ_3]) rfl ⟨by rw [EV.out]; rfl, HB.out⟩
  | true =>
    rw [hv, if_pos rfl] at EV0
    rw [hv] at VA0
    have VA := Lib.hid VA0
    clear VA0
    cases hb : bxV b with
    | false =>
      rw [hb] at VB0
      have VB := Lib.hid VB0
      have EV := Lib.hid (EV0.trans (if_neg (by rw [hb]; decide)))
      clear EV0 VB0 hv hb
      generalize mrgF a b = q at *
      obtain ⟨ax, ay, a1, a2⟩ := a
      obtain ⟨bx, by', b1, b2⟩ := b
      simp only at VA VB
      obtain ⟨KA, KB, KZ, HB⟩ := ent3 w #[.int .i64 ax, .int .i64 ay, .int .i64 a1, .int .i64 a2] 26 #[.int .i64 bx, .int .i64 (by'), .int .i64 b1, .int .i64 b2] 26 #[.int .i64 0, .int .i64 0, .int .i64 0, .int .i64 0] 26
      go_enter Tryz.func63, Tryz.ntmps63
      go_wp2_with fail
      generalize ((w.alloc (.cells #[.int .i64 ax, .int .i64 ay, .int .i64 a1, .int .i64 a2] 26)).alloc (.cells #[.int .i64 bx, .int .i64 (by'), .int .i64 b1, .int .i64 b2] 26)).alloc (.cells #[.int .i64 0, .int .i64 0, .int .i64 0, .int .i64 0] 26) = w0 at *
      refine (VA.out _).mono ?_
      rintro e1 w1 ⟨rfl, hb1⟩
      replace HB := hT HB hb1
      replace KA := hK KA hb1
      replace KB := hK KB hb1
      replace KZ := hK KZ hb1
      clear hb1
      obtain ⟨yB_0, yB_1, yB_2, yB_3, yB_z⟩ := blk4 KB
      go_wp2_with fail
      refine (VB.out _).mono ?_
      rintro e2 w2 ⟨rfl, hb2⟩
      replace HB := hT HB hb2
      replace KA := hK KA hb2
      replace KB := hK KB hb2
      replace KZ := hK KZ hb2
      clear yB_0 yB_1 yB_2 yB_3 yB_z
      clear hb2
      obtain ⟨yZ_0, yZ_1, yZ_2, yZ_3, yZ_z, yZ_f0, yZ_f1, yZ_f2, yZ_f3⟩ := blf4 KZ
      go_wp2
      have hs := st4 w2 (w.heap.size + 1 + 1) 0 (.int .i64 0) 1 (.int .i64 0) 2 (.int .i64 0) 3 (.int .i64 0)
      replace KA := oB hs KA (by omega)
      replace KB := oB hs KB (by omega)
      replace KZ := Lib.hid (blk_set (blk_set (blk_set (blk_set KZ.out (j := 0) (by simp) (.int .i64 0)) (j := 1) (by simp) (.int .i64 0)) (j := 2) (by simp) (.int .i64 0)) (j := 3) (by simp) (.int .i64 0))
      replace HB := oH hs HB (by omega)
      clear hs
      clear yZ_0 yZ_1 yZ_2 yZ_3 yZ_z yZ_f0 yZ_f1 yZ_f2 yZ_f3
      generalize (((w2.setCell ⟨(w.heap.size + 1 + 1), 0, none⟩ (.int .i64 0)).setCell ⟨(w.heap.size + 1 + 1), 1, none⟩ (.int .i64 0)).setCell ⟨(w.heap.size + 1 + 1), 2, none⟩ (.int .i64 0)).setCell ⟨(w.heap.size + 1 + 1), 3, none⟩ (.int .i64 0) = w3 at *
      simp only [List.set] at KZ
      obtain ⟨yZ_0, yZ_1, yZ_2, yZ_3, yZ_z⟩ := blk4 KZ
      refine bodyPost_ret (v := .tuple #[.agg #[.int .i64 0, .int .i64 0, .int .i64 0, .int .i64 0], .int .i64 1]) (by simp [results, Tryz.results63, go_sem, yZ_0, yZ_1, yZ_2, yZ_3]) rfl ⟨by rw [EV.out]; rfl, HB.out⟩
    | true =>
      rw [hb, if_pos rfl] at EV0
      rw [hb] at VB0
      have VB := Lib.hid VB0
      clear VB0
      have v1 := bxV_iff.1 hv
      have v2 := bxV_iff.1 hb
      have OX0 := fun w => ovl_any a.cx a.x b.cx b.x w (by omega) (by omega) (by omega) (by omega)
      have OY0 := fun w => ovl_any a.cy a.y b.cy b.y w (by omega) (by omega) (by omega) (by omega)
      clear hv hb v1 v2
      unfold mrgB at EV0
      obtain ⟨ox, hox⟩ : ∃ z, decide (ovL a.cx a.x b.cx b.x ≤ ovH a.cx a.x b.cx b.x) = z := ⟨_, rfl⟩
      obtain ⟨oy, hoy⟩ : ∃ z, decide (ovL a.cy a.y b.cy b.y ≤ ovH a.cy a.y b.cy b.y) = z := ⟨_, rfl⟩
      rw [hox] at OX0
      rw [hoy] at OY0
      have EX : ox = true → oy = true → mrgF a b = (⟨ovM a.cx a.x b.cx b.x, ovM a.cy a.y b.cy b.y, ovH a.cx a.x b.cx b.x - ovM a.cx a.x b.cx b.x, ovH a.cy a.y b.cy b.y - ovM a.cy a.y b.cy b.y⟩, 0) := fun h1 h2 => EV0.trans (if_pos ⟨of_decide_eq_true (hox.trans h1), of_decide_eq_true (hoy.trans h2)⟩)
      have EN : ox = false ∨ oy = false → mrgF a b = (bx0, 11) := fun h => EV0.trans (if_neg fun ⟨h1, h2⟩ => by
        rw [decide_eq_true h1] at hox
        rw [decide_eq_true h2] at hoy
        subst hox hoy
        simp at h)
      clear hox hoy EV0
      generalize ovH a.cx a.x b.cx b.x - ovM a.cx a.x b.cx b.x = wx at *
      generalize ovH a.cy a.y b.cy b.y - ovM a.cy a.y b.cy b.y = wy at *
      generalize ovM a.cx a.x b.cx b.x = mx at *
      generalize ovM a.cy a.y b.cy b.y = my at *
      generalize mrgF a b = q at *
      obtain ⟨ax, ay, a1, a2⟩ := a
      obtain ⟨bx, by', b1, b2⟩ := b
      simp only at VA VB OX0 OY0
      have OX := Lib.hid OX0
      have OY := Lib.hid OY0
      clear OX0 OY0
      cases ox with
      | false =>
        have EV := Lib.hid (EN (.inl rfl))
        clear EN EX
        cases oy with
        | false =>
          obtain ⟨KA, KB, KZ, HB⟩ := ent3 w #[.int .i64 ax, .int .i64 ay, .int .i64 a1, .int .i64 a2] 26 #[.int .i64 bx, .int .i64 (by'), .int .i64 b1, .int .i64 b2] 26 #[.int .i64 0, .int .i64 0, .int .i64 0, .int .i64 0] 26
          go_enter Tryz.func63, Tryz.ntmps63
          go_wp2_with fail
          generalize ((w.alloc (.cells #[.int .i64 ax, .int .i64 ay, .int .i64 a1, .int .i64 a2] 26)).alloc (.cells #[.int .i64 bx, .int .i64 (by'), .int .i64 b1, .int .i64 b2] 26)).alloc (.cells #[.int .i64 0, .int .i64 0, .int .i64 0, .int .i64 0] 26) = w0 at *
          refine (VA.out _).mono ?_
          rintro e1 w1 ⟨rfl, hb1⟩
          replace HB := hT HB hb1
          replace KA := hK KA hb1
          replace KB := hK KB hb1
          replace KZ := hK KZ hb1
          clear hb1
          obtain ⟨yB_0, yB_1, yB_2, yB_3, yB_z⟩ := blk4 KB
          go_wp2_with fail
          refine (VB.out _).mono ?_
          rintro e2 w2 ⟨rfl, hb2⟩
          replace HB := hT HB hb2
          replace KA := hK KA hb2
          replace KB := hK KB hb2
          replace KZ := hK KZ hb2
          clear yB_0 yB_1 yB_2 yB_3 yB_z
          clear hb2
          go_upto_region 5 with (fail)
          obtain ⟨KC, hb3⟩ := alB w2 #[.int .i64 0, .int .i64 0, .int .i64 0, .int .i64 0] 26
          have hnC := HB.out.size
          have nzC_A := KA.out.lt
          have nzC_B := KB.out.lt
          have nzC_Z := KZ.out.lt
          replace HB := hT HB hb3
          replace KA := hK KA hb3
          replace KB := hK KB hb3
          replace KZ := hK KZ hb3
          clear hb3
          generalize w2.alloc (.cells #[.int .i64 0, .int .i64 0, .int .i64 0, .int .i64 0] 26) = w3 at *
          generalize w2.heap.size = bC at *
          have neC_A : bC ≠ w.heap.size := by omega
          have neC_B : bC ≠ (w.heap.size + 1) := by omega
          have neC_Z : bC ≠ (w.heap.size + 1 + 1) := by omega
          clear nzC_A nzC_B nzC_Z
          obtain ⟨yA_0, yA_1, yA_2, yA_3, yA_z⟩ := blk4 KA
          obtain ⟨yB_0, yB_1, yB_2, yB_3, yB_z⟩ := blk4 KB
          go_wp2_with fail
          refine (OX.out _).mono ?_
          rintro e4 w4 ⟨rfl, hb4⟩
          replace HB := hT HB hb4
          replace KA := hK KA hb4
          replace KB := hK KB hb4
          replace KZ := hK KZ hb4
          replace KC := hK KC hb4
          clear yA_0 yA_1 yA_2 yA_3 yA_z yB_0 yB_1 yB_2 yB_3 yB_z
          clear hb4
          obtain ⟨yC_0, yC_1, yC_2, yC_3, yC_z, yC_f0, yC_f1, yC_f2, yC_f3⟩ := blf4 KC
          go_upto_region 6 with (fail)
          have hs := st2 w4 bC 0 (.int .i64 mx) 2 (.int .i64 wx)
          replace KA := oB hs KA (by omega)
          replace KB := oB hs KB (by omega)
          replace KZ := oB hs KZ (by omega)
          replace KC := Lib.hid (blk_set (blk_set KC.out (j := 0) (by simp) (.int .i64 mx)) (j := 2) (by simp) (.int .i64 wx))
          replace HB := oH hs HB (by omega)
          clear hs
          clear yC_0 yC_1 yC_2 yC_3 yC_z yC_f0 yC_f1 yC_f2 yC_f3
          generalize (w4.setCell ⟨bC, 0, none⟩ (.int .i64 mx)).setCell ⟨bC, 2, none⟩ (.int .i64 wx) = w5 at *
          simp only [List.set] at KC
          obtain ⟨yA_0, yA_1, yA_2, yA_3, yA_z⟩ := blk4 KA
          obtain ⟨yB_0, yB_1, yB_2, yB_3, yB_z⟩ := blk4 KB
          go_wp2_with fail
          refine (OY.out _).mono ?_
          rintro e6 w6 ⟨rfl, hb6⟩
          replace HB := hT HB hb6
          replace KA := hK KA hb6
          replace KB := hK KB hb6
          replace KZ := hK KZ hb6
          replace KC := hK KC hb6
          clear yA_0 yA_1 yA_2 yA_3 yA_z yB_0 yB_1 yB_2 yB_3 yB_z
          clear hb6
          obtain ⟨yC_0, yC_1, yC_2, yC_3, yC_z, yC_f0, yC_f1, yC_f2, yC_f3⟩ := blf4 KC
          go_upto_region 7 with (fail)
          have hs := st2 w6 bC 1 (.int .i64 my) 3 (.int .i64 wy)
          replace KA := oB hs KA (by omega)
          replace KB := oB hs KB (by omega)
          replace KZ := oB hs KZ (by omega)
          replace KC := Lib.hid (blk_set (blk_set KC.out (j := 1) (by simp) (.int .i64 my)) (j := 3) (by simp) (.int .i64 wy))
          replace HB := oH hs HB (by omega)
          clear hs
          clear yC_0 yC_1 yC_2 yC_3 yC_z yC_f0 yC_f1 yC_f2 yC_f3
          generalize (w6.setCell ⟨bC, 1, none⟩ (.int .i64 my)).setCell ⟨bC, 3, none⟩ (.int .i64 wy) = w7 at *
          simp only [List.set] at KC
          obtain ⟨yZ_0, yZ_1, yZ_2, yZ_3, yZ_z, yZ_f0, yZ_f1, yZ_f2, yZ_f3⟩ := blf4 KZ
          go_wp2
          have hs := st4 w7 (w.heap.size + 1 + 1) 0 (.int .i64 0) 1 (.int .i64 0) 2 (.int .i64 0) 3 (.int .i64 0)
          replace KA := oB hs KA (by omega)
          replace KB := oB hs KB (by omega)
          replace KZ := Lib.hid (blk_set (blk_set (blk_set (blk_set KZ.out (j := 0) (by simp) (.int .i64 0)) (j := 1) (by simp) (.int .i64 0)) (j := 2) (by simp) (.int .i64 0)) (j := 3) (by simp) (.int .i64 0))
          replace KC := oB hs KC (by omega)
          replace HB := oH hs HB (by omega)
          clear hs
          clear yZ_0 yZ_1 yZ_2 yZ_3 yZ_z yZ_f0 yZ_f1 yZ_f2 yZ_f3
          generalize (((w7.setCell ⟨(w.heap.size + 1 + 1), 0, none⟩ (.int .i64 0)).setCell ⟨(w.heap.size + 1 + 1), 1, none⟩ (.int .i64 0)).setCell ⟨(w.heap.size + 1 + 1), 2, none⟩ (.int .i64 0)).setCell ⟨(w.heap.size + 1 + 1), 3, none⟩ (.int .i64 0) = w8 at *
          simp only [List.set] at KZ
          obtain ⟨yZ_0, yZ_1, yZ_2, yZ_3, yZ_z⟩ := blk4 KZ
          refine bodyPost_ret (v := .tuple #[.agg #[.int .i64 0, .int .i64 0, .int .i64 0, .int .i64 0], .int .i64 11]) (by simp [results, Tryz.results63, go_sem, yZ_0, yZ_1, yZ_2, yZ_3]) rfl ⟨by rw [EV.out]; rfl, HB.out⟩
        | true =>
          obtain ⟨KA, KB, KZ, HB⟩ := ent3 w #[.int .i64 ax, .int .i64 ay, .int .i64 a1, .int .i64 a2] 26 #[.int .i64 bx, .int .i64 (by'), .int .i64 b1, .int .i64 b2] 26 #[.int .i64 0, .int .i64 0, .int .i64 0, .int .i64 0] 26
          go_enter Tryz.func63, Tryz.ntmps63
          go_wp2_with fail
          generalize ((w.alloc (.cells #[.int .i64 ax, .int .i64 ay, .int .i64 a1, .int .i64 a2] 26)).alloc (.cells #[.int .i64 bx, .int .i64 (by'), .int .i64 b1, .int .i64 b2] 26)).alloc (.cells #[.int .i64 0, .int .i64 0, .int .i64 0, .int .i64 0] 26) = w0 at *
          refine (VA.out _).mono ?_
          rintro e1 w1 ⟨rfl, hb1⟩
          replace HB := hT HB hb1
          replace KA := hK KA hb1
          replace KB := hK KB hb1
          replace KZ := hK KZ hb1
          clear hb1
          obtain ⟨yB_0, yB_1, yB_2, yB_3, yB_z⟩ := blk4 KB
          go_wp2_with fail
          refine (VB.out _).mono ?_
          rintro e2 w2 ⟨rfl, hb2⟩
          replace HB := hT HB hb2
          replace KA := hK KA hb2
          replace KB := hK KB hb2
          replace KZ := hK KZ hb2
          clear yB_0 yB_1 yB_2 yB_3 yB_z
          clear hb2
          go_upto_region 5 with (fail)
          obtain ⟨KC, hb3⟩ := alB w2 #[.int .i64 0, .int .i64 0, .int .i64 0, .int .i64 0] 26
          have hnC := HB.out.size
          have nzC_A := KA.out.lt
          have nzC_B := KB.out.lt
          have nzC_Z := KZ.out.lt
          replace HB := hT HB hb3
          replace KA := hK KA hb3
          replace KB := hK KB hb3
          replace KZ := hK KZ hb3
          clear hb3
          generalize w2.alloc (.cells #[.int .i64 0, .int .i64 0, .int .i64 0, .int .i64 0] 26) = w3 at *
          generalize w2.heap.size = bC at *
          have neC_A : bC ≠ w.heap.size := by omega
          have neC_B : bC ≠ (w.heap.size + 1) := by omega
          have neC_Z : bC ≠ (w.heap.size + 1 + 1) := by omega
          clear nzC_A nzC_B nzC_Z
          obtain ⟨yA_0, yA_1, yA_2, yA_3, yA_z⟩ := blk4 KA
          obtain ⟨yB_0, yB_1, yB_2, yB_3, yB_z⟩ := blk4 KB
          go_wp2_with fail
          refine (OX.out _).mono ?_
          rintro e4 w4 ⟨rfl, hb4⟩
          replace HB := hT HB hb4
          replace KA := hK KA hb4
          replace KB := hK KB hb4
          replace KZ := hK KZ hb4
          replace KC := hK KC hb4
          clear yA_0 yA_1 yA_2 yA_3 yA_z yB_0 yB_1 yB_2 yB_3 yB_z
          clear hb4
          obtain ⟨yC_0, yC_1, yC_2, yC_3, yC_z, yC_f0, yC_f1, yC_f2, yC_f3⟩ := blf4 KC
          go_upto_region 6 with (fail)
          have hs := st2 w4 bC 0 (.int .i64 mx) 2 (.int .i64 wx)
          replace KA := oB hs KA (by omega)
          replace KB := oB hs KB (by omega)
          replace KZ := oB hs KZ (by omega)
          replace KC := Lib.hid (blk_set (blk_set KC.out (j := 0) (by simp) (.int .i64 mx)) (j := 2) (by simp) (.int .i64 wx))
          replace HB := oH hs HB (by omega)
          clear hs
          clear yC_0 yC_1 yC_2 yC_3 yC_z yC_f0 yC_f1 yC_f2 yC_f3
          generalize (w4.setCell ⟨bC, 0, none⟩ (.int .i64 mx)).setCell ⟨bC, 2, none⟩ (.int .i64 wx) = w5 at *
          simp only [List.set] at KC
          obtain ⟨yA_0, yA_1, yA_2, yA_3, yA_z⟩ := blk4 KA
          obtain ⟨yB_0, yB_1, yB_2, yB_3, yB_z⟩ := blk4 KB
          go_wp2_with fail
          refine (OY.out _).mono ?_
          rintro e6 w6 ⟨rfl, hb6⟩
          replace HB := hT HB hb6
          replace KA := hK KA hb6
          replace KB := hK KB hb6
          replace KZ := hK KZ hb6
          replace KC := hK KC hb6
          clear yA_0 yA_1 yA_2 yA_3 yA_z yB_0 yB_1 yB_2 yB_3 yB_z
          clear hb6
          obtain ⟨yC_0, yC_1, yC_2, yC_3, yC_z, yC_f0, yC_f1, yC_f2, yC_f3⟩ := blf4 KC
          go_upto_region 7 with (fail)
          have hs := st2 w6 bC 1 (.int .i64 my) 3 (.int .i64 wy)
          replace KA := oB hs KA (by omega)
          replace KB := oB hs KB (by omega)
          replace KZ := oB hs KZ (by omega)
          replace KC := Lib.hid (blk_set (blk_set KC.out (j := 1) (by simp) (.int .i64 my)) (j := 3) (by simp) (.int .i64 wy))
          replace HB := oH hs HB (by omega)
          clear hs
          clear yC_0 yC_1 yC_2 yC_3 yC_z yC_f0 yC_f1 yC_f2 yC_f3
          generalize (w6.setCell ⟨bC, 1, none⟩ (.int .i64 my)).setCell ⟨bC, 3, none⟩ (.int .i64 wy) = w7 at *
          simp only [List.set] at KC
          obtain ⟨yZ_0, yZ_1, yZ_2, yZ_3, yZ_z, yZ_f0, yZ_f1, yZ_f2, yZ_f3⟩ := blf4 KZ
          go_wp2
          have hs := st4 w7 (w.heap.size + 1 + 1) 0 (.int .i64 0) 1 (.int .i64 0) 2 (.int .i64 0) 3 (.int .i64 0)
          replace KA := oB hs KA (by omega)
          replace KB := oB hs KB (by omega)
          replace KZ := Lib.hid (blk_set (blk_set (blk_set (blk_set KZ.out (j := 0) (by simp) (.int .i64 0)) (j := 1) (by simp) (.int .i64 0)) (j := 2) (by simp) (.int .i64 0)) (j := 3) (by simp) (.int .i64 0))
          replace KC := oB hs KC (by omega)
          replace HB := oH hs HB (by omega)
          clear hs
          clear yZ_0 yZ_1 yZ_2 yZ_3 yZ_z yZ_f0 yZ_f1 yZ_f2 yZ_f3
          generalize (((w7.setCell ⟨(w.heap.size + 1 + 1), 0, none⟩ (.int .i64 0)).setCell ⟨(w.heap.size + 1 + 1), 1, none⟩ (.int .i64 0)).setCell ⟨(w.heap.size + 1 + 1), 2, none⟩ (.int .i64 0)).setCell ⟨(w.heap.size + 1 + 1), 3, none⟩ (.int .i64 0) = w8 at *
          simp only [List.set] at KZ
          obtain ⟨yZ_0, yZ_1, yZ_2, yZ_3, yZ_z⟩ := blk4 KZ
          refine bodyPost_ret (v := .tuple #[.agg #[.int .i64 0, .int .i64 0, .int .i64 0, .int .i64 0], .int .i64 11]) (by simp [results, Tryz.results63, go_sem, yZ_0, yZ_1, yZ_2, yZ_3]) rfl ⟨by rw [EV.out]; rfl, HB.out⟩
      | true =>
        cases oy with
        | false =>
          have EV := Lib.hid (EN (.inr rfl))
          clear EN EX
          obtain ⟨KA, KB, KZ, HB⟩ := ent3 w #[.int .i64 ax, .int .i64 ay, .int .i64 a1, .int .i64 a2] 26 #[.int .i64 bx, .int .i64 (by'), .int .i64 b1, .int .i64 b2] 26 #[.int .i64 0, .int .i64 0, .int .i64 0, .int .i64 0] 26
          go_enter Tryz.func63, Tryz.ntmps63
          go_wp2_with fail
          generalize ((w.alloc (.cells #[.int .i64 ax, .int .i64 ay, .int .i64 a1, .int .i64 a2] 26)).alloc (.cells #[.int .i64 bx, .int .i64 (by'), .int .i64 b1, .int .i64 b2] 26)).alloc (.cells #[.int .i64 0, .int .i64 0, .int .i64 0, .int .i64 0] 26) = w0 at *
          refine (VA.out _).mono ?_
          rintro e1 w1 ⟨rfl, hb1⟩
          replace HB := hT HB hb1
          replace KA := hK KA hb1
          replace KB := hK KB hb1
          replace KZ := hK KZ hb1
          clear hb1
          obtain ⟨yB_0, yB_1, yB_2, yB_3, yB_z⟩ := blk4 KB
          go_wp2_with fail
          refine (VB.out _).mono ?_
          rintro e2 w2 ⟨rfl, hb2⟩
          replace HB := hT HB hb2
          replace KA := hK KA hb2
          replace KB := hK KB hb2
          replace KZ := hK KZ hb2
          clear yB_0 yB_1 yB_2 yB_3 yB_z
          clear hb2
          go_upto_region 5 with (fail)
          obtain ⟨KC, hb3⟩ := alB w2 #[.int .i64 0, .int .i64 0, .int .i64 0, .int .i64 0] 26
          have hnC := HB.out.size
          have nzC_A := KA.out.lt
          have nzC_B := KB.out.lt
          have nzC_Z := KZ.out.lt
          replace HB := hT HB hb3
          replace KA := hK KA hb3
          replace KB := hK KB hb3
          replace KZ := hK KZ hb3
          clear hb3
          generalize w2.alloc (.cells #[.int .i64 0, .int .i64 0, .int .i64 0, .int .i64 0] 26) = w3 at *
          generalize w2.heap.size = bC at *
          have neC_A : bC ≠ w.heap.size := by omega
          have neC_B : bC ≠ (w.heap.size + 1) := by omega
          have neC_Z : bC ≠ (w.heap.size + 1 + 1) := by omega
          clear nzC_A nzC_B nzC_Z
          obtain ⟨yA_0, yA_1, yA_2, yA_3, yA_z⟩ := blk4 KA
          obtain ⟨yB_0, yB_1, yB_2, yB_3, yB_z⟩ := blk4 KB
          go_wp2_with fail
          refine (OX.out _).mono ?_
          rintro e4 w4 ⟨rfl, hb4⟩
          replace HB := hT HB hb4
          replace KA := hK KA hb4
          replace KB := hK KB hb4
          replace KZ := hK KZ hb4
          replace KC := hK KC hb4
          clear yA_0 yA_1 yA_2 yA_3 yA_z yB_0 yB_1 yB_2 yB_3 yB_z
          clear hb4
          obtain ⟨yC_0, yC_1, yC_2, yC_3, yC_z, yC_f0, yC_f1, yC_f2, yC_f3⟩ := blf4 KC
          go_upto_region 6 with (fail)
          have hs := st2 w4 bC 0 (.int .i64 mx) 2 (.int .i64 wx)
          replace KA := oB hs KA (by omega)
          replace KB := oB hs KB (by omega)
          replace KZ := oB hs KZ (by omega)
          replace KC := Lib.hid (blk_set (blk_set KC.out (j := 0) (by simp) (.int .i64 mx)) (j := 2) (by simp) (.int .i64 wx))
          replace HB := oH hs HB (by omega)
          clear hs
          clear yC_0 yC_1 yC_2 yC_3 yC_z yC_f0 yC_f1 yC_f2 yC_f3
          generalize (w4.setCell ⟨bC, 0, none⟩ (.int .i64 mx)).setCell ⟨bC, 2, none⟩ (.int .i64 wx) = w5 at *
          simp only [List.set] at KC
          obtain ⟨yA_0, yA_1, yA_2, yA_3, yA_z⟩ := blk4 KA
          obtain ⟨yB_0, yB_1, yB_2, yB_3, yB_z⟩ := blk4 KB
          go_wp2_with fail
          refine (OY.out _).mono ?_
          rintro e6 w6 ⟨rfl, hb6⟩
          replace HB := hT HB hb6
          replace KA := hK KA hb6
          replace KB := hK KB hb6
          replace KZ := hK KZ hb6
          replace KC := hK KC hb6
          clear yA_0 yA_1 yA_2 yA_3 yA_z yB_0 yB_1 yB_2 yB_3 yB_z
          clear hb6
          obtain ⟨yC_0, yC_1, yC_2, yC_3, yC_z, yC_f0, yC_f1, yC_f2, yC_f3⟩ := blf4 KC
          go_upto_region 7 with (fail)
          have hs := st2 w6 bC 1 (.int .i64 my) 3 (.int .i64 wy)
          replace KA := oB hs KA (by omega)
          replace KB := oB hs KB (by omega)
          replace KZ := oB hs KZ (by omega)
          replace KC := Lib.hid (blk_set (blk_set KC.out (j := 1) (by simp) (.int .i64 my)) (j := 3) (by simp) (.int .i64 wy))
          replace HB := oH hs HB (by omega)
          clear hs
          clear yC_0 yC_1 yC_2 yC_3 yC_z yC_f0 yC_f1 yC_f2 yC_f3
          generalize (w6.setCell ⟨bC, 1, none⟩ (.int .i64 my)).setCell ⟨bC, 3, none⟩ (.int .i64 wy) = w7 at *
          simp only [List.set] at KC
          obtain ⟨yZ_0, yZ_1, yZ_2, yZ_3, yZ_z, yZ_f0, yZ_f1, yZ_f2, yZ_f3⟩ := blf4 KZ
          go_wp2
          have hs := st4 w7 (w.heap.size + 1 + 1) 0 (.int .i64 0) 1 (.int .i64 0) 2 (.int .i64 0) 3 (.int .i64 0)
          replace KA := oB hs KA (by omega)
          replace KB := oB hs KB (by omega)
          replace KZ := Lib.hid (blk_set (blk_set (blk_set (blk_set KZ.out (j := 0) (by simp) (.int .i64 0)) (j := 1) (by simp) (.int .i64 0)) (j := 2) (by simp) (.int .i64 0)) (j := 3) (by simp) (.int .i64 0))
          replace KC := oB hs KC (by omega)
          replace HB := oH hs HB (by omega)
          clear hs
          clear yZ_0 yZ_1 yZ_2 yZ_3 yZ_z yZ_f0 yZ_f1 yZ_f2 yZ_f3
          generalize (((w7.setCell ⟨(w.heap.size + 1 + 1), 0, none⟩ (.int .i64 0)).setCell ⟨(w.heap.size + 1 + 1), 1, none⟩ (.int .i64 0)).setCell ⟨(w.heap.size + 1 + 1), 2, none⟩ (.int .i64 0)).setCell ⟨(w.heap.size + 1 + 1), 3, none⟩ (.int .i64 0) = w8 at *
          simp only [List.set] at KZ
          obtain ⟨yZ_0, yZ_1, yZ_2, yZ_3, yZ_z⟩ := blk4 KZ
          refine bodyPost_ret (v := .tuple #[.agg #[.int .i64 0, .int .i64 0, .int .i64 0, .int .i64 0], .int .i64 11]) (by simp [results, Tryz.results63, go_sem, yZ_0, yZ_1, yZ_2, yZ_3]) rfl ⟨by rw [EV.out]; rfl, HB.out⟩
        | true =>
          have EV := Lib.hid (EX rfl rfl)
          clear EN EX
          obtain ⟨KA, KB, KZ, HB⟩ := ent3 w #[.int .i64 ax, .int .i64 ay, .int .i64 a1, .int .i64 a2] 26 #[.int .i64 bx, .int .i64 (by'), .int .i64 b1, .int .i64 b2] 26 #[.int .i64 0, .int .i64 0, .int .i64 0, .int .i64 0] 26
          go_enter Tryz.func63, Tryz.ntmps63
          go_wp2_with fail
          generalize ((w.alloc (.cells #[.int .i64 ax, .int .i64 ay, .int .i64 a1, .int .i64 a2] 26)).alloc (.cells #[.int .i64 bx, .int .i64 (by'), .int .i64 b1, .int .i64 b2] 26)).alloc (.cells #[.int .i64 0, .int .i64 0, .int .i64 0, .int .i64 0] 26) = w0 at *
          refine (VA.out _).mono ?_
          rintro e1 w1 ⟨rfl, hb1⟩
          replace HB := hT HB hb1
          replace KA := hK KA hb1
          replace KB := hK KB hb1
          replace KZ := hK KZ hb1
          clear hb1
          obtain ⟨yB_0, yB_1, yB_2, yB_3, yB_z⟩ := blk4 KB
          go_wp2_with fail
          refine (VB.out _).mono ?_
          rintro e2 w2 ⟨rfl, hb2⟩
          replace HB := hT HB hb2
          replace KA := hK KA hb2
          replace KB := hK KB hb2
          replace KZ := hK KZ hb2
          clear yB_0 yB_1 yB_2 yB_3 yB_z
          clear hb2
          go_upto_region 5 with (fail)
          obtain ⟨KC, hb3⟩ := alB w2 #[.int .i64 0, .int .i64 0, .int .i64 0, .int .i64 0] 26
          have hnC := HB.out.size
          have nzC_A := KA.out.lt
          have nzC_B := KB.out.lt
          have nzC_Z := KZ.out.lt
          replace HB := hT HB hb3
          replace KA := hK KA hb3
          replace KB := hK KB hb3
          replace KZ := hK KZ hb3
          clear hb3
          generalize w2.alloc (.cells #[.int .i64 0, .int .i64 0, .int .i64 0, .int .i64 0] 26) = w3 at *
          generalize w2.heap.size = bC at *
          have neC_A : bC ≠ w.heap.size := by omega
          have neC_B : bC ≠ (w.heap.size + 1) := by omega
          have neC_Z : bC ≠ (w.heap.size + 1 + 1) := by omega
          clear nzC_A nzC_B nzC_Z
          obtain ⟨yA_0, yA_1, yA_2, yA_3, yA_z⟩ := blk4 KA
          obtain ⟨yB_0, yB_1, yB_2, yB_3, yB_z⟩ := blk4 KB
          go_wp2_with fail
          refine (OX.out _).mono ?_
          rintro e4 w4 ⟨rfl, hb4⟩
          replace HB := hT HB hb4
          replace KA := hK KA hb4
          replace KB := hK KB hb4
          replace KZ := hK KZ hb4
          replace KC := hK KC hb4
          clear yA_0 yA_1 yA_2 yA_3 yA_z yB_0 yB_1 yB_2 yB_3 yB_z
          clear hb4
          obtain ⟨yC_0, yC_1, yC_2, yC_3, yC_z, yC_f0, yC_f1, yC_f2, yC_f3⟩ := blf4 KC
          go_upto_region 6 with (fail)
          have hs := st2 w4 bC 0 (.int .i64 mx) 2 (.int .i64 wx)
          replace KA := oB hs KA (by omega)
          replace KB := oB hs KB (by omega)
          replace KZ := oB hs KZ (by omega)
          replace KC := Lib.hid (blk_set (blk_set KC.out (j := 0) (by simp) (.int .i64 mx)) (j := 2) (by simp) (.int .i64 wx))
          replace HB := oH hs HB (by omega)
          clear hs
          clear yC_0 yC_1 yC_2 yC_3 yC_z yC_f0 yC_f1 yC_f2 yC_f3
          generalize (w4.setCell ⟨bC, 0, none⟩ (.int .i64 mx)).setCell ⟨bC, 2, none⟩ (.int .i64 wx) = w5 at *
          simp only [List.set] at KC
          obtain ⟨yA_0, yA_1, yA_2, yA_3, yA_z⟩ := blk4 KA
          obtain ⟨yB_0, yB_1, yB_2, yB_3, yB_z⟩ := blk4 KB
          go_wp2_with fail
          refine (OY.out _).mono ?_
          rintro e6 w6 ⟨rfl, hb6⟩
          replace HB := hT HB hb6
          replace KA := hK KA hb6
          replace KB := hK KB hb6
          replace KZ := hK KZ hb6
          replace KC := hK KC hb6
          clear yA_0 yA_1 yA_2 yA_3 yA_z yB_0 yB_1 yB_2 yB_3 yB_z
          clear hb6
          obtain ⟨yC_0, yC_1, yC_2, yC_3, yC_z, yC_f0, yC_f1, yC_f2, yC_f3⟩ := blf4 KC
          go_upto_region 7 with (fail)
          have hs := st2 w6 bC 1 (.int .i64 my) 3 (.int .i64 wy)
          replace KA := oB hs KA (by omega)
          replace KB := oB hs KB (by omega)
          replace KZ := oB hs KZ (by omega)
          replace KC := Lib.hid (blk_set (blk_set KC.out (j := 1) (by simp) (.int .i64 my)) (j := 3) (by simp) (.int .i64 wy))
          replace HB := oH hs HB (by omega)
          clear hs
          clear yC_0 yC_1 yC_2 yC_3 yC_z yC_f0 yC_f1 yC_f2 yC_f3
          generalize (w6.setCell ⟨bC, 1, none⟩ (.int .i64 my)).setCell ⟨bC, 3, none⟩ (.int .i64 wy) = w7 at *
          simp only [List.set] at KC
          obtain ⟨yZ_0, yZ_1, yZ_2, yZ_3, yZ_z, yZ_f0, yZ_f1, yZ_f2, yZ_f3⟩ := blf4 KZ
          obtain ⟨yC_0, yC_1, yC_2, yC_3, yC_z⟩ := blk4 KC
          go_wp2
          have hs := st4 w7 (w.heap.size + 1 + 1) 0 (.int .i64 mx) 1 (.int .i64 my) 2 (.int .i64 wx) 3 (.int .i64 wy)
          replace KA := oB hs KA (by omega)
          replace KB := oB hs KB (by omega)
          replace KZ := Lib.hid (blk_set (blk_set (blk_set (blk_set KZ.out (j := 0) (by simp) (.int .i64 mx)) (j := 1) (by simp) (.int .i64 my)) (j := 2) (by simp) (.int .i64 wx)) (j := 3) (by simp) (.int .i64 wy))
          replace KC := oB hs KC (by omega)
          replace HB := oH hs HB (by omega)
          clear hs
          clear yZ_0 yZ_1 yZ_2 yZ_3 yZ_z yZ_f0 yZ_f1 yZ_f2 yZ_f3 yC_0 yC_1 yC_2 yC_3 yC_z
          generalize (((w7.setCell ⟨(w.heap.size + 1 + 1), 0, none⟩ (.int .i64 mx)).setCell ⟨(w.heap.size + 1 + 1), 1, none⟩ (.int .i64 my)).setCell ⟨(w.heap.size + 1 + 1), 2, none⟩ (.int .i64 wx)).setCell ⟨(w.heap.size + 1 + 1), 3, none⟩ (.int .i64 wy) = w8 at *
          simp only [List.set] at KZ
          obtain ⟨yZ_0, yZ_1, yZ_2, yZ_3, yZ_z⟩ := blk4 KZ
          refine bodyPost_ret (v := .tuple #[.agg #[.int .i64 mx, .int .i64 my, .int .i64 wx, .int .i64 wy], .int .i64 0]) (by simp [results, Tryz.results63, go_sem, yZ_0, yZ_1, yZ_2, yZ_3]) rfl ⟨by rw [EV.out], HB.out⟩
end Go.Proofs.YtidelghgjibndaaGreat
namespace Go.Proofs.YtidelghgjibndaaGreat
set_option linter.unusedVariables false
open Go.RowKit
/-- one measurement more: the sums without an overflow -/
structure NStep (l : List Ms) (k : Nat) (m : Ms) : Prop where
  wa : IntKind.i64.wrap (m.w * m.a) = m.w * m.a
  wb : IntKind.i64.wrap (m.w * m.b) = m.w * m.b
  waa : IntKind.i64.wrap (m.w * m.a * m.a) = m.w * m.a * m.a
  wab : IntKind.i64.wrap (m.w * m.a * m.b) = m.w * m.a * m.b
  wbb : IntKind.i64.wrap (m.w * m.b * m.b) = m.w * m.b * m.b
  waz : IntKind.i64.wrap (m.w * m.a * m.z) = m.w * m.a * m.z
  wbz : IntKind.i64.wrap (m.w * m.b * m.z) = m.w * m.b * m.z
  xx : IntKind.i64.wrap (nXX (l.take k) + m.w * m.a * m.a) = nXX (l.take (k + 1))
  xy : IntKind.i64.wrap (nXY (l.take k) + m.w * m.a * m.b) = nXY (l.take (k + 1))
  yy : IntKind.i64.wrap (nYY (l.take k) + m.w * m.b * m.b) = nYY (l.take (k + 1))
  xz : IntKind.i64.wrap (nXZ (l.take k) + m.w * m.a * m.z) = nXZ (l.take (k + 1))
  yz : IntKind.i64.wrap (nYZ (l.take k) + m.w * m.b * m.z) = nYZ (l.take (k + 1))
theorem nstep {l : List Ms} (h : OkL l) {k : Nat} (q : k < l.length) : NStep l k (nth l k) := by
  have o := h.ok _ (nth_mem q)
  have B := nrm_bd (h.take (k + 1))
  have xx0 : nXX (l.take (k + 1)) = nXX (l.take k) + (nth l k).w * (nth l k).a * (nth l k).a := sum_take _ q
  have xy0 : nXY (l.take (k + 1)) = nXY (l.take k) + (nth l k).w * (nth l k).a * (nth l k).b := sum_take _ q
  have yy0 : nYY (l.take (k + 1)) = nYY (l.take k) + (nth l k).w * (nth l k).b * (nth l k).b := sum_take _ q
  have xz0 : nXZ (l.take (k + 1)) = nXZ (l.take k) + (nth l k).w * (nth l k).a * (nth l k).z := sum_take _ q
  have yz0 : nYZ (l.take (k + 1)) = nYZ (l.take k) + (nth l k).w * (nth l k).b * (nth l k).z := sum_take _ q
  generalize nth l k = m at *
  have p1 := mulb (X := 16) (Y := 256) (x := m.w) (y := m.a) (by omega) (by have := o.w0; omega) o.w1 o.a0 o.a1
  have p2 := mulb (X := 16) (Y := 256) (x := m.w) (y := m.b) (by omega) (by have := o.w0; omega) o.w1 o.b0 o.b1
  have t1 := term2 (A := 256) (B := 256) (by omega) o.w0 o.w1 o.a0 o.a1 o.a0 o.a1
  have t2 := term2 (A := 256) (B := 256) (by omega) o.w0 o.w1 o.a0 o.a1 o.b0 o.b1
  have t3 := term2 (A := 256) (B := 256) (by omega) o.w0 o.w1 o.b0 o.b1 o.b0 o.b1
  have t4 := term2 (A := 256) (B := 4294967296) (by omega) o.w0 o.w1 o.a0 o.a1 o.z0 o.z1
  have t5 := term2 (A := 256) (B := 4294967296) (by omega) o.w0 o.w1 o.b0 o.b1 o.z0 o.z1
  obtain ⟨⟨a0, a1⟩, ⟨b0, b1⟩, ⟨c0, c1⟩, ⟨d0, d1⟩, ⟨e0, e1⟩⟩ := B
  exact ⟨IntWalk.i64_in _ (by omega), IntWalk.i64_in _ (by omega), IntWalk.i64_in _ (by omega), IntWalk.i64_in _ (by omega), IntWalk.i64_in _ (by omega), IntWalk.i64_in _ (by omega), IntWalk.i64_in _ (by omega),
    by rw [← xx0]; exact IntWalk.i64_in _ (by omega), by rw [← xy0]; exact IntWalk.i64_in _ (by omega), by rw [← yy0]; exact IntWalk.i64_in _ (by omega), by rw [← xz0]; exact IntWalk.i64_in _ (by omega), by rw [← yz0]; exact IntWalk.i64_in _ (by omega)⟩
def NrR (l : List Ms) (p : Option Addr) (cap : Nat) (w : World) (bn : Nat) (u : Value) (wr : World) : Prop := ∃ k : Nat, u = .int .i64 k ∧ k ≤ l.length ∧ Hid (Below w.heap.size w wr) ∧ Hid (Blk [.int .i64 (nXX (l.take k)), .int .i64 (nXY (l.take k)), .int .i64 (nYY (l.take k)), .int .i64 (nXZ (l.take k)), .int .i64 (nYZ (l.take k))] bn wr) ∧ Hid (Blk [.int .i64 0, .int .i64 0, .int .i64 0, .int .i64 0, .int .i64 0] w.heap.size wr)
set_option maxHeartbeats 8000000 in
set_option maxRecDepth 100000 in
theorem normal_any (l : List Ms) (v : Value) (w : World) (h : LstAt l v w) (hc : chkL l = 0) :
    Calls Tryz.prog 53 #[v] w fun e w' => e = .returned (.tuple #[.agg #[.int .i64 (nXX l), .int .i64 (nXY l), .int .i64 (nYY l), .int .i64 (nXZ l), .int .i64 (nYZ l)], .int .i64 0]) ∧ Below w.heap.size w w' := by
  obtain ⟨p, cap, rfl⟩ := lst_form h
  have OL := Lib.hid (okL_of hc)
  have CH := Lib.hid fun w h => check_any l (.slice p l.length cap) w h
  rw [hc] at CH
  clear hc
  have H0 := Lib.hid h
  obtain ⟨KZ, HB⟩ := ent1 w #[.int .i64 0, .int .i64 0, .int .i64 0, .int .i64 0, .int .i64 0] 112
  go_enter Tryz.func53, Tryz.ntmps53
  clear h
  go_wp2_with fail
  generalize w.alloc (.cells #[.int .i64 0, .int .i64 0, .int .i64 0, .int .i64 0, .int .i64 0] 112) = w0 at *
  refine (CH.out _ (H0.out.below HB.out)).mono ?_
  rintro e1 w1 ⟨rfl, hb1⟩
  replace HB := hT HB hb1
  replace KZ := hK KZ hb1
  clear hb1
  go_wp2
  obtain ⟨KN, hb2⟩ := alB w1 #[.int .i64 0, .int .i64 0, .int .i64 0, .int .i64 0, .int .i64 0] 112
  have hnN := HB.out.size
  have nzN_Z := KZ.out.lt
  replace HB := hT HB hb2
  replace KZ := hK KZ hb2
  clear hb2
  generalize w1.alloc (.cells #[.int .i64 0, .int .i64 0, .int .i64 0, .int .i64 0, .int .i64 0] 112) = w2 at *
  generalize w1.heap.size = bN at *
  have neN_Z : bN ≠ w.heap.size := by omega
  clear nzN_Z
  go_loopw [16] (NrR l p cap w bN) (fun i _ => l.length - (intOf i).toNat)
  case atStart => exact ⟨0, rfl, Nat.zero_le _, HB, KN, KZ⟩
  case round =>
    clear HB KN KZ
    obtain ⟨k, rfl, hk, HB, KN, KZ⟩ := hrel
    by_cases q : k < l.length
    · have q' : decide (k < l.length) = true := by simpa using q
      obtain ⟨b, o, rfl, hcap, hmax, MM⟩ := lst_at (H0.out.below HB.out) q
      have c0 := MM.c0 k q
      have c1 := MM.c1 k q
      have c2 := MM.c2 k q
      have c3 := MM.c3 k q
      have c4 := MM.c4 k q
      have c5 := MM.c5 k q
      have clt := MM.lt
      have NS := nstep OL.out q
      obtain ⟨s0, s1, s2, s3, s4, s5, s6, s7, s8, s9, s10, s11⟩ := NS
      clear MM
      generalize nth l k = m at *
      generalize nXX (l.take k) = A at *
      generalize nXY (l.take k) = B at *
      generalize nYY (l.take k) = C at *
      generalize nXZ (l.take k) = D at *
      generalize nYZ (l.take k) = E at *
      obtain ⟨A1, EA⟩ : ∃ x, nXX (l.take (k + 1)) = x := ⟨_, rfl⟩
      obtain ⟨B1, EB⟩ : ∃ x, nXY (l.take (k + 1)) = x := ⟨_, rfl⟩
      obtain ⟨C1, EC⟩ : ∃ x, nYY (l.take (k + 1)) = x := ⟨_, rfl⟩
      obtain ⟨D1, ED⟩ : ∃ x, nXZ (l.take (k + 1)) = x := ⟨_, rfl⟩
      obtain ⟨E1, EE⟩ : ∃ x, nYZ (l.take (k + 1)) = x := ⟨_, rfl⟩
      rw [EA] at s7
      rw [EB] at s8
      rw [EC] at s9
      rw [ED] at s10
      rw [EE] at s11
      have HA := Lib.hid EA
      have HBB := Lib.hid EB
      have HC := Lib.hid EC
      have HD := Lib.hid ED
      have HE := Lib.hid EE
      clear EA EB EC ED EE
      obtain ⟨yN_0, yN_1, yN_2, yN_3, yN_4, yN_z, yN_f0, yN_f1, yN_f2, yN_f3, yN_f4⟩ := blf5 KN
      obtain ⟨yN_0, yN_1, yN_2, yN_3, yN_4, yN_z, yN_f0, yN_f1, yN_f2, yN_f3, yN_f4⟩ := blf5 KN
      go_wp2
      have hs := st5 wr bN 0 (.int .i64 A1) 1 (.int .i64 B1) 2 (.int .i64 C1) 3 (.int .i64 D1) 4 (.int .i64 E1)
      replace KZ := oB hs KZ (by omega)
      replace KN := Lib.hid (blk_set (blk_set (blk_set (blk_set (blk_set KN.out (j := 0) (by simp) (.int .i64 A1)) (j := 1) (by simp) (.int .i64 B1)) (j := 2) (by simp) (.int .i64 C1)) (j := 3) (by simp) (.int .i64 D1)) (j := 4) (by simp) (.int .i64 E1))
      replace HB := oH hs HB (by omega)
      clear hs
      clear yN_0 yN_1 yN_2 yN_3 yN_4 yN_z yN_f0 yN_f1 yN_f2 yN_f3 yN_f4
      generalize ((((wr.setCell ⟨bN, 0, none⟩ (.int .i64 A1)).setCell ⟨bN, 1, none⟩ (.int .i64 B1)).setCell ⟨bN, 2, none⟩ (.int .i64 C1)).setCell ⟨bN, 3, none⟩ (.int .i64 D1)).setCell ⟨bN, 4, none⟩ (.int .i64 E1) = w51 at *
      simp only [List.set] at KN
      obtain ⟨KM, hb52⟩ := alB w51 #[.int .i64 m.s, .int .i64 m.a, .int .i64 m.b, .int .i64 m.z, .int .i64 m.d, .int .i64 m.w] 59
      have hnM := HB.out.size
      have nzM_Z := KZ.out.lt
      have nzM_N := KN.out.lt
      replace HB := hT HB hb52
      replace KZ := hK KZ hb52
      replace KN := hK KN hb52
      clear hb52
      generalize w51.alloc (.cells #[.int .i64 m.s, .int .i64 m.a, .int .i64 m.b, .int .i64 m.z, .int .i64 m.d, .int .i64 m.w] 59) = w52 at *
      generalize w51.heap.size = bM at *
      have neM_Z : bM ≠ w.heap.size := by omega
      have neM_N : bM ≠ bN := by omega
      clear nzM_Z nzM_N
      exact ⟨⟨k + 1, by go_num, by omega, HB, by rw [HA.out, HBB.out, HC.out, HD.out, HE.out]; exact KN, KZ⟩, by simp [intOf]; omega⟩
    · obtain rfl : k = l.length := by omega
      rw [List.take_length] at KN
      obtain ⟨A, EA⟩ : ∃ x, nXX l = x := ⟨_, rfl⟩
      rw [EA] at KN
      have HA := Lib.hid EA
      clear EA
      obtain ⟨B, EB⟩ : ∃ x, nXY l = x := ⟨_, rfl⟩
      rw [EB] at KN
      have HBB := Lib.hid EB
      clear EB
      obtain ⟨C, EC⟩ : ∃ x, nYY l = x := ⟨_, rfl⟩
      rw [EC] at KN
      have HC := Lib.hid EC
      clear EC
      obtain ⟨D, ED⟩ : ∃ x, nXZ l = x := ⟨_, rfl⟩
      rw [ED] at KN
      have HD := Lib.hid ED
      clear ED
      obtain ⟨E, EE⟩ : ∃ x, nYZ l = x := ⟨_, rfl⟩
      rw [EE] at KN
      have HE := Lib.hid EE
      clear EE
      obtain ⟨yZ_0, yZ_1, yZ_2, yZ_3, yZ_4, yZ_z, yZ_f0, yZ_f1, yZ_f2, yZ_f3, yZ_f4⟩ := blf5 KZ
      obtain ⟨yN_0, yN_1, yN_2, yN_3, yN_4, yN_z⟩ := blk5 KN
      go_wp2
      have hs := st5 wr w.heap.size 0 (.int .i64 A) 1 (.int .i64 B) 2 (.int .i64 C) 3 (.int .i64 D) 4 (.int .i64 E)
      replace KZ := Lib.hid (blk_set (blk_set (blk_set (blk_set (blk_set KZ.out (j := 0) (by simp) (.int .i64 A)) (j := 1) (by simp) (.int .i64 B)) (j := 2) (by simp) (.int .i64 C)) (j := 3) (by simp) (.int .i64 D)) (j := 4) (by simp) (.int .i64 E))
      replace KN := oB hs KN (by omega)
      replace HB := oH hs HB (by omega)
      clear hs
      clear yZ_0 yZ_1 yZ_2 yZ_3 yZ_4 yZ_z yZ_f0 yZ_f1 yZ_f2 yZ_f3 yZ_f4 yN_0 yN_1 yN_2 yN_3 yN_4 yN_z
      generalize ((((wr.setCell ⟨w.heap.size, 0, none⟩ (.int .i64 A)).setCell ⟨w.heap.size, 1, none⟩ (.int .i64 B)).setCell ⟨w.heap.size, 2, none⟩ (.int .i64 C)).setCell ⟨w.heap.size, 3, none⟩ (.int .i64 D)).setCell ⟨w.heap.size, 4, none⟩ (.int .i64 E) = w51 at *
      simp only [List.set] at KZ
      obtain ⟨yZ_0, yZ_1, yZ_2, yZ_3, yZ_4, yZ_z⟩ := blk5 KZ
      refine bodyPost_ret (v := .tuple #[.agg #[.int .i64 A, .int .i64 B, .int .i64 C, .int .i64 D, .int .i64 E], .int .i64 0]) (by simp [results, Tryz.results53, go_sem, yZ_0, yZ_1, yZ_2, yZ_3, yZ_4]) rfl ⟨by rw [HA.out, HBB.out, HC.out, HD.out, HE.out], HB.out⟩
set_option maxHeartbeats 8000000 in
set_option maxRecDepth 100000 in
theorem normal_bad (l : List Ms) (v : Value) (w : World) (h : LstAt l v w) (hc : chkL l ≠ 0) :
    Calls Tryz.prog 53 #[v] w fun e w' => e = .returned (.tuple #[.agg #[.int .i64 0, .int .i64 0, .int .i64 0, .int .i64 0, .int .i64 0], .int .i64 (chkL l)]) ∧ Below w.heap.size w w' := by
  obtain ⟨p, cap, rfl⟩ := lst_form h
  have CH := Lib.hid fun w h => check_any l (.slice p l.length cap) w h
  have g : (chkL l != 0) = true := by simpa using hc
  have g' : (chkL l == 0) = false := by simpa using hc
  clear hc
  generalize chkL l = c at *
  have H0 := Lib.hid h
  obtain ⟨KZ, HB⟩ := ent1 w #[.int .i64 0, .int .i64 0, .int .i64 0, .int .i64 0, .int .i64 0] 112
  go_enter Tryz.func53, Tryz.ntmps53
  clear h
  go_wp2_with fail
  generalize w.alloc (.cells #[.int .i64 0, .int .i64 0, .int .i64 0, .int .i64 0, .int .i64 0] 112) = w0 at *
  refine (CH.out _ (H0.out.below HB.out)).mono ?_
  rintro e1 w1 ⟨rfl, hb1⟩
  replace HB := hT HB hb1
  replace KZ := hK KZ hb1
  clear hb1
  obtain ⟨yZ_0, yZ_1, yZ_2, yZ_3, yZ_4, yZ_z, yZ_f0, yZ_f1, yZ_f2, yZ_f3, yZ_f4⟩ := blf5 KZ
  go_wp2
  have hs := st5 w1 w.heap.size 0 (.int .i64 0) 1 (.int .i64 0) 2 (.int .i64 0) 3 (.int .i64 0) 4 (.int .i64 0)
  replace KZ := Lib.hid (blk_set (blk_set (blk_set (blk_set (blk_set KZ.out (j := 0) (by simp) (.int .i64 0)) (j := 1) (by simp) (.int .i64 0)) (j := 2) (by simp) (.int .i64 0)) (j := 3) (by simp) (.int .i64 0)) (j := 4) (by simp) (.int .i64 0))
  replace HB := oH hs HB (by omega)
  clear hs
  clear yZ_0 yZ_1 yZ_2 yZ_3 yZ_4 yZ_z yZ_f0 yZ_f1 yZ_f2 yZ_f3 yZ_f4
  generalize ((((w1.setCell ⟨w.heap.size, 0, none⟩ (.int .i64 0)).setCell ⟨w.heap.size, 1, none⟩ (.int .i64 0)).setCell ⟨w.heap.size, 2, none⟩ (.int .i64 0)).setCell ⟨w.heap.size, 3, none⟩ (.int .i64 0)).setCell ⟨w.heap.size, 4, none⟩ (.int .i64 0) = w2 at *
  simp only [List.set] at KZ
  obtain ⟨yZ_0, yZ_1, yZ_2, yZ_3, yZ_4, yZ_z⟩ := blk5 KZ
  refine bodyPost_ret (v := .tuple #[.agg #[.int .i64 0, .int .i64 0, .int .i64 0, .int .i64 0, .int .i64 0], .int .i64 c]) (by simp [results, Tryz.results53, go_sem, yZ_0, yZ_1, yZ_2, yZ_3, yZ_4]) rfl ⟨rfl, HB.out⟩
end Go.Proofs.YtidelghgjibndaaGreat
