/-
  Walks and laws of the layers below, gathered from several texts.
-/
import Derived.StillTail
import Derived.StillTailTactics
import Derived.Lib.QuietBelow
import Derived.Test.YtajmjkliblippaaGreatDoorM66
namespace Go.Proofs.YtajmjkliblippaaGreatDoor
set_option linter.unusedVariables false
open Go.ChangeShapes Go.WideShapes Go.ChangeAt Go.RowKit Go.Joins

/-- a slice that reads as reports -/
def RlG (l : List Rp) (v : Value) (w : World) : Prop := ∃ p cap, v = .slice p l.length cap ∧ (l.length ≤ cap ∧ cap ≤ 9223372036854775807) ∧ ∀ k, k < l.length → ∃ b o, p = some ⟨b, o, none⟩ ∧ RpAt l b o w
theorem RlG.below {l : List Rp} {v : Value} {w w' : World} (h : RlG l v w) (hb : Below w.heap.size w w') : RlG l v w' := by
  obtain ⟨p, cap, e, hc, h⟩ := h
  exact ⟨p, cap, e, hc, fun k hk => by obtain ⟨b, o, e, r⟩ := h k hk; exact ⟨b, o, e, r.below hb⟩⟩
theorem rg_form {l : List Rp} {v : Value} {w : World} (h : RlG l v w) : ∃ p cap, v = .slice p l.length cap := by
  obtain ⟨p, cap, e, _⟩ := h
  exact ⟨p, cap, e⟩
theorem rg_cap {l : List Rp} {p : Option Addr} {n cap : Nat} {w : World} (h : RlG l (.slice p n cap) w) : n = l.length ∧ l.length ≤ cap ∧ cap ≤ 9223372036854775807 := by
  obtain ⟨p', cap', e, hc, _⟩ := h
  injection e with e1 e2 e3
  subst e3
  exact ⟨e2, hc⟩
theorem rg_at {l : List Rp} {p : Option Addr} {cap : Nat} {w : World} (h : RlG l (.slice p l.length cap) w) {k : Nat} (q : k < l.length) : ∃ b o, p = some ⟨b, o, none⟩ ∧ l.length ≤ cap ∧ cap ≤ 9223372036854775807 ∧ RpAt l b o w := by
  obtain ⟨p', cap', e, hc, h⟩ := h
  injection e with e1 e2 e3
  subst e1 e3
  obtain ⟨b, o, e, r⟩ := h k q
  exact ⟨b, o, e, hc.1, hc.2, r⟩
theorem rg_of {l : List Rp} {v : Value} {w : World} (h : RlAt l v w) : RlG l v w := by
  rcases h with ⟨rfl, rfl⟩ | ⟨b, o, cap, rfl, h2, h3, h4⟩
  · exact ⟨none, 0, rfl, ⟨Nat.le_refl _, by omega⟩, fun k hk => absurd hk (by simp)⟩
  · exact ⟨_, _, rfl, ⟨h2, h3⟩, fun k hk => ⟨b, o, rfl, h4⟩⟩
theorem rg_nil (w : World) : RlG [] (.slice none 0 0) w := ⟨none, 0, rfl, ⟨Nat.le_refl _, by omega⟩, fun k hk => absurd hk (by simp)⟩
theorem nthR_take {l : List Rp} {n i : Nat} (hi : i < (l.take n).length) : i < l.length ∧ nthR (l.take n) i = nthR l i := by
  rw [List.length_take] at hi
  refine ⟨by omega, ?_⟩
  unfold nthR
  rw [List.getD_eq_getElem?_getD, List.getD_eq_getElem?_getD, List.getElem?_take, if_pos (by omega)]
theorem rps_take {l : List Rp} {b o : Nat} {w : World} (h : RpAt l b o w) (n : Nat) : RpAt (l.take n) b o w :=
  ⟨h.lt, fun i hi => by rw [(nthR_take hi).2]; exact h.c0 i (nthR_take hi).1, fun i hi => by rw [(nthR_take hi).2]; exact h.c1 i (nthR_take hi).1, fun i hi => by rw [(nthR_take hi).2]; exact h.c2 i (nthR_take hi).1, fun i hi => by rw [(nthR_take hi).2]; exact h.c3 i (nthR_take hi).1, fun i hi => by rw [(nthR_take hi).2]; exact h.c4 i (nthR_take hi).1, fun i hi => by rw [(nthR_take hi).2]; exact h.c5 i (nthR_take hi).1, fun i hi => by rw [(nthR_take hi).2]; exact h.c6 i (nthR_take hi).1, fun i hi => by rw [(nthR_take hi).2]; exact h.c7 i (nthR_take hi).1⟩
theorem rg_take {l : List Rp} {p : Option Addr} {cap : Nat} {w : World} (h : RlG l (.slice p l.length cap) w) {n : Nat} (hn : n ≤ l.length) : RlG (l.take n) (.slice p n cap) w := by
  obtain ⟨p', cap', e, hc, h⟩ := h
  injection e with e1 e2 e3
  subst e1 e3
  have hl : (l.take n).length = n := by rw [List.length_take]; omega
  refine ⟨p, cap, by rw [hl], ⟨by omega, hc.2⟩, fun k hk => ?_⟩
  obtain ⟨b, o, e, r⟩ := h k (by omega)
  exact ⟨b, o, e, rps_take r n⟩
theorem cell_addr {W : World} {a : Addr} {v : Value} (h : W.cell? a = some v) : a.spot = none ∧ a.block < W.heap.size := by
  unfold World.cell? at h
  split at h
  · rename_i q
    split at h
    · cases h
    · rename_i hs
      exact ⟨by simpa using hs, (Array.getElem?_eq_some_iff.1 q).1⟩
  · cases h
theorem add_none {a : Addr} (hsp : a.spot = none) (i j : Nat) : (a.add i).add j = ⟨a.block, a.off + i + j, none⟩ := by
  rw [Go.Deep.add_add]
  unfold Addr.add
  obtain ⟨ab, af, asp⟩ := a
  simp only at hsp
  subst hsp
  split
  · rename_i e
    simp only [Addr.mk.injEq, and_true, true_and]
    omega
  · simp only [Addr.mk.injEq, and_true, true_and]
    omega
theorem max_le2 {n : Nat} (h : n ≤ maxLen) : n ≤ 9223372036854775807 := by unfold maxLen at h; omega
section
variable {H : Type} {enc : TypeId × Value → H} {W : World} {b0 : Nat}

set_option maxRecDepth 100000 in
theorem trod_reportsG {fuel : Nat} {c : Value} {y : DataW H × List MemPlace} (h : DataW.trod enc Tryz.prog W 0 (fun _ => true) true fuel 34 [c] = some y) :
    ∃ l : List Rp, RlG l c W ∧ ∀ i, i < l.length → 0 ≤ (nthR l i).k ∧ (nthR l i).k ≤ 255 := by
  rcases Go.Deep.open_slice Tryz.underlying34 h with ⟨hc, _⟩ | ⟨a, len, cap, m, n, D, Pl, hc, _, hlc, hcm, hm, _, hi⟩
  · obtain rfl : c = .slice none 0 0 := (List.cons.inj hc).1
    exact ⟨[], rg_nil W, fun i hi => absurd hi (by simp)⟩
  · obtain rfl : c = .slice (some a) len cap := (List.cons.inj hc).1
    simp only [if_true] at hm
    subst hm
    have cells : ∀ i, i < len → ∃ cs', cs'.length = 8 ∧ (∀ j (hj : j < 8), W.cell? ((a.add (i * 8)).add j) = cs'[j]?) ∧ DataW.trod enc Tryz.prog W 0 (fun _ => true) true n 49 cs' = some (D i, Pl i) := fun i hil => by
      obtain ⟨cs, hcs, ht⟩ := hi i (by omega)
      rw [cells_of_report] at hcs
      obtain ⟨_, hl, hat⟩ := World.cells?_some hcs
      exact ⟨cs, hl, fun j hj => by rw [hat j (by omega)], ht⟩
    have hsp : 0 < len → a.spot = none ∧ a.block < W.heap.size := fun hl => by
      obtain ⟨cs, hcl, hat, _⟩ := cells 0 hl
      have := hat 0 (by omega)
      rw [List.getElem?_eq_getElem (by omega)] at this
      exact cell_addr this
    have key : ∀ i, i < len → ∃ x : Rp, (0 ≤ x.k ∧ x.k ≤ 255) ∧ (a.spot = none ∧ a.block < W.heap.size) ∧ W.cell? ⟨a.block, a.off + i * 8, none⟩ = some (.int .i64 x.s) ∧ W.cell? ⟨a.block, a.off + i * 8 + 1, none⟩ = some (.int .u8 x.k) ∧ W.cell? ⟨a.block, a.off + i * 8 + 2, none⟩ = some (.int .i64 x.x) ∧ W.cell? ⟨a.block, a.off + i * 8 + 3, none⟩ = some (.int .i64 x.y) ∧ W.cell? ⟨a.block, a.off + i * 8 + 4, none⟩ = some (.int .i64 x.v) ∧ W.cell? ⟨a.block, a.off + i * 8 + 5, none⟩ = some (.int .i64 x.b) ∧ W.cell? ⟨a.block, a.off + i * 8 + 6, none⟩ = some (.int .i64 x.wt) ∧ W.cell? ⟨a.block, a.off + i * 8 + 7, none⟩ = some (.int .i64 x.t) := by
      intro i hil
      have hs := hsp (by omega)
      obtain ⟨cs, hl, hat, ht⟩ := cells i hil
      match cs, hl with
      | [c0, c1, c2, c3, c4, c5, c6, c7], _ =>
        obtain ⟨a0, a1, a2, a3, a4, a5, a6, a7, rfl, rfl, rfl, rfl, rfl, rfl, rfl, rfl, _, _, hk, _⟩ := trod_report ht
        have hk' : 0 ≤ a1 ∧ a1 ≤ 255 := by simp [Lit.wf, IntKind.min, IntKind.max, IntKind.signed, IntKind.bits] at hk; omega
        refine ⟨⟨a0, a1, a2, a3, a4, a5, a6, a7⟩, hk', hs, ?_, ?_, ?_, ?_, ?_, ?_, ?_, ?_⟩
        · have := hat 0 (by omega); rw [add_none hs.1] at this; exact this
        · have := hat 1 (by omega); rw [add_none hs.1] at this; exact this
        · have := hat 2 (by omega); rw [add_none hs.1] at this; exact this
        · have := hat 3 (by omega); rw [add_none hs.1] at this; exact this
        · have := hat 4 (by omega); rw [add_none hs.1] at this; exact this
        · have := hat 5 (by omega); rw [add_none hs.1] at this; exact this
        · have := hat 6 (by omega); rw [add_none hs.1] at this; exact this
        · have := hat 7 (by omega); rw [add_none hs.1] at this; exact this
    obtain ⟨f, hf⟩ := Go.Deep.choose_lt key
    have hlen : ((List.range len).map f).length = len := by simp
    have hn : ∀ i, i < len → nthR ((List.range len).map f) i = f i := fun i hil => by
      unfold nthR
      rw [List.getD_eq_getElem?_getD, List.getElem?_map, List.getElem?_range hil]
      rfl
    refine ⟨(List.range len).map f, ⟨some a, m, by rw [hlen], ⟨by rw [hlen]; exact hlc, max_le2 hcm⟩, fun k hk => ?_⟩, fun i hil => ?_⟩
    · rw [hlen] at hk
      have hs := (hf k hk).2.1
      obtain ⟨ab, af, asp⟩ := a
      simp only at hs
      obtain ⟨rfl, hlt⟩ := hs
      refine ⟨ab, af, rfl, hlt, ?_, ?_, ?_, ?_, ?_, ?_, ?_, ?_⟩
      all_goals
        intro i hil
        rw [hlen] at hil
        rw [hn i hil]
      · exact (hf i hil).2.2.1
      · exact (hf i hil).2.2.2.1
      · exact (hf i hil).2.2.2.2.1
      · exact (hf i hil).2.2.2.2.2.1
      · exact (hf i hil).2.2.2.2.2.2.1
      · exact (hf i hil).2.2.2.2.2.2.2.1
      · exact (hf i hil).2.2.2.2.2.2.2.2.1
      · exact (hf i hil).2.2.2.2.2.2.2.2.2
    · rw [hlen] at hil
      rw [hn i hil]
      exact (hf i hil).1
set_option maxRecDepth 100000 in
theorem trod_navinG {n : Nat} {c0 c1 c2 c3 c4 c5 : Value} {y : DataW H × List MemPlace} (h : DataW.trod enc Tryz.prog W 0 (fun _ => true) true n 38 [c0, c1, c2, c3, c4, c5] = some y) :
    ∃ (a0 a2 a3 a4 a5 : Int) (l : List Rp), c0 = .int .i64 a0 ∧ c2 = .int .i64 a2 ∧ c3 = .int .i64 a3 ∧ c4 = .int .i64 a4 ∧ c5 = .int .i64 a5 ∧ RlG l c1 W ∧ ∀ i, i < l.length → 0 ≤ (nthR l i).k ∧ (nthR l i).k ≤ 255 := by
  obtain ⟨xs, m, _, hx, _, hlen, hg⟩ := DataW.trod_struct Tryz.underlying38 h
  match xs, hlen with
  | [y0, y1, y2, y3, y4], _ =>
    have h0 : DataW.trod enc Tryz.prog W 0 (fun _ => true) true m 2 (([c0, c1, c2, c3, c4, c5].drop 0).take (Tryz.prog.cellsOf 2)) = some y0 := hg 0 _ rfl
    rw [cells_of_int64] at h0
    have g0 : DataW.trod enc Tryz.prog W 0 (fun _ => true) true m 2 [c0] = some y0 := h0
    have h1 : DataW.trod enc Tryz.prog W 0 (fun _ => true) true m 34 (([c0, c1, c2, c3, c4, c5].drop 1).take (Tryz.prog.cellsOf 34)) = some y1 := hg 1 _ rfl
    rw [cells_of_reports] at h1
    have g1 : DataW.trod enc Tryz.prog W 0 (fun _ => true) true m 34 [c1] = some y1 := h1
    have h2 : DataW.trod enc Tryz.prog W 0 (fun _ => true) true m 36 (([c0, c1, c2, c3, c4, c5].drop 2).take (Tryz.prog.cellsOf 36)) = some y2 := hg 2 _ rfl
    rw [cells_of_velocity] at h2
    have g2 : DataW.trod enc Tryz.prog W 0 (fun _ => true) true m 36 [c2, c3] = some y2 := h2
    have h3 : DataW.trod enc Tryz.prog W 0 (fun _ => true) true m 2 (([c0, c1, c2, c3, c4, c5].drop 4).take (Tryz.prog.cellsOf 2)) = some y3 := hg 3 _ rfl
    rw [cells_of_int64] at h3
    have g3 : DataW.trod enc Tryz.prog W 0 (fun _ => true) true m 2 [c4] = some y3 := h3
    have h4 : DataW.trod enc Tryz.prog W 0 (fun _ => true) true m 2 (([c0, c1, c2, c3, c4, c5].drop 5).take (Tryz.prog.cellsOf 2)) = some y4 := hg 4 _ rfl
    rw [cells_of_int64] at h4
    have g4 : DataW.trod enc Tryz.prog W 0 (fun _ => true) true m 2 [c5] = some y4 := h4
    obtain ⟨a0, e0, _, _⟩ := DataW.trod_int Tryz.underlying2 g0
    obtain rfl : c0 = .int .i64 a0 := by simpa using e0
    obtain ⟨l, hl, hk⟩ := trod_reportsG g1
    obtain ⟨a2, a3, rfl, rfl, _, _, _⟩ := trod_velocity g2
    obtain ⟨a4, e4, _, _⟩ := DataW.trod_int Tryz.underlying2 g3
    obtain rfl : c4 = .int .i64 a4 := by simpa using e4
    obtain ⟨a5, e5, _, _⟩ := DataW.trod_int Tryz.underlying2 g4
    obtain rfl : c5 = .int .i64 a5 := by simpa using e5
    exact ⟨a0, a2, a3, a4, a5, l, rfl, rfl, rfl, rfl, rfl, hl, hk⟩
set_option maxRecDepth 100000 in
theorem open_navinG {v : Value} {d : DataW H} {p : List MemPlace} (hv : Value.okWide Tryz.prog W .any b0 38 v) (h : DataW.Trod enc Tryz.prog W 0 (fun _ => true) true 38 v d p) :
    ∃ (a0 : Int) (r : Value) (a2 a3 a4 a5 : Int) (l : List Rp), v = .agg #[.int .i64 a0, r, .int .i64 a2, .int .i64 a3, .int .i64 a4, .int .i64 a5] ∧ RlG l r W ∧ ∀ i, i < l.length → 0 ≤ (nthR l i).k ∧ (nthR l i).k ≤ 255 := by
  obtain ⟨cs, rfl, hsz⟩ := okWide_struct Tryz.underlying38 hv
  obtain ⟨l⟩ := cs
  match l, hsz.trans cells_of_navin with
  | [c0, c1, c2, c3, c4, c5], _ =>
    obtain ⟨fuel, hf⟩ := h
    have hf' : DataW.trod enc Tryz.prog W 0 (fun _ => true) true fuel 38 [c0, c1, c2, c3, c4, c5] = some (d, p) := hf
    obtain ⟨a0, a2, a3, a4, a5, l, rfl, rfl, rfl, rfl, rfl, hl, hk⟩ := trod_navinG hf'
    exact ⟨a0, c1, a2, a3, a4, a5, l, rfl, hl, hk⟩
end
end Go.Proofs.YtajmjkliblippaaGreatDoor
namespace Go.Proofs.YtajmjkliblippaaGreatDoor
set_option linter.unusedVariables false
open Go.RowKit
def NwR (L : List Rp) (tk cx cy x y : Int) (W : World) (v5 v13 : Value) (wr : World) : Prop := ∃ k : Nat, v13 = .int .i64 k ∧ k ≤ L.length ∧ Hid (Below W.heap.size W wr) ∧ Hid (OM W.heap.size wr v5 (rowsT tk cx cy x y (L.take k)))
theorem below_om2 {B B' : Nat} {w : World} {v : Value} {l : List Ms} (hB : B ≤ B') (h : OM B' w v l) : OM B w v l := by
  unfold OM World.ownsRow at *
  obtain ⟨h1, h2⟩ := h
  refine ⟨h1, ?_⟩
  rcases h2 with h2 | ⟨g, cap, cur, e, hb, r⟩
  · exact .inl h2
  · exact .inr ⟨g, cap, cur, e, Nat.le_trans hB hb, r⟩
set_option maxHeartbeats 40000000 in
set_option maxRecDepth 100000 in
theorem nrows_any (L : List Rp) (v : Value) (tk ve vn dr rq cx cy x y : Int) (w : World) (h : RlG L v w) (hK : ∀ i, i < L.length → 0 ≤ (nthR L i).k ∧ (nthR L i).k ≤ 255) (hn : L.length ≤ 20000) :
    Calls Tryz.prog 34 #[.agg #[.int .i64 tk, v, .int .i64 ve, .int .i64 vn, .int .i64 dr, .int .i64 rq], .agg #[.int .i64 cx, .int .i64 cy, .int .i64 x, .int .i64 y]] w fun e w' => (∃ u, e = .returned u ∧ OM w.heap.size w' u (rowsT tk cx cy x y L)) ∧ Below w.heap.size w w' := by
  have KK := Lib.hid hK
  have HN := Lib.hid hn
  clear hK hn
  obtain ⟨p, cap, rfl⟩ := rg_form h
  have H0 := Lib.hid h
  obtain ⟨KI, KB, HB⟩ := ent2 w #[.int .i64 tk, .slice p L.length cap, .int .i64 ve, .int .i64 vn, .int .i64 dr, .int .i64 rq] 38 #[.int .i64 cx, .int .i64 cy, .int .i64 x, .int .i64 y] 25
  go_enter Tryz.func34, Tryz.ntmps34
  clear h
  have KI1 := KI
  have KB1 := KB
  have HB1 := HB
  have hI1 := KI.out.lt
  have hB1 := KB.out.lt
  go_wp2
  have hz1 : ((w.alloc (.cells #[.int .i64 tk, .slice p L.length cap, .int .i64 ve, .int .i64 vn, .int .i64 dr, .int .i64 rq] 38)).alloc (.cells #[.int .i64 cx, .int .i64 cy, .int .i64 x, .int .i64 y] 25)).heap.size = w.heap.size + 1 + 1 := by simp
  generalize (w.alloc (.cells #[.int .i64 tk, .slice p L.length cap, .int .i64 ve, .int .i64 vn, .int .i64 dr, .int .i64 rq] 38)).alloc (.cells #[.int .i64 cx, .int .i64 cy, .int .i64 x, .int .i64 y] 25) = w1 at *
  have h11 := HB.out.size
  go_loopw [5, 13] (NwR L tk cx cy x y w1) (fun _ i _ => L.length - (intOf i).toNat)
  case atStart => exact ⟨0, rfl, Nat.zero_le _, Lib.hid (Below.refl _ _), Lib.hid (World.ownsRow_nil _ _ _ _)⟩
  case round =>
    clear KI KB HB
    obtain ⟨k, rfl, hk, HBR, HO⟩ := hrel
    have KI := Lib.hid (blk_keep KI1.out HBR.out hI1)
    have KB := Lib.hid (blk_keep KB1.out HBR.out hB1)
    have HB := Lib.hid (HB1.out.trans (HBR.out.mono h11))
    by_cases q : k < L.length
    · have q' : decide (k < L.length) = true := by simpa using q
      obtain ⟨b, o, rfl, hcap, hmax, RA⟩ := rg_at (H0.out.below HB.out) q
      have HR := Lib.hid RA
      have c0 := RA.c0 k q
      have c1 := RA.c1 k q
      have c2 := RA.c2 k q
      have c3 := RA.c3 k q
      have c4 := RA.c4 k q
      have c5 := RA.c5 k q
      have c6 := RA.c6 k q
      have c7 := RA.c7 k q
      have clt := RA.lt
      clear RA
      have hkk := KK.out k q
      have SU := Lib.hid (rowsT_succ tk cx cy x y q)
      have LN := Lib.hid (show (rowsT tk cx cy x y (L.take k)).length ≤ 50000 by have h1 := rowsT_len tk cx cy x y (L.take k); have h2 := List.length_take_le k L; have := HN.out; omega)
      obtain ⟨rr, hrr⟩ : ∃ z, nthR L k = z := ⟨_, rfl⟩
      rw [hrr] at c0 c1 c2 c3 c4 c5 c6 c7 hkk SU
      clear hrr
      have RW := Lib.hid fun w => rowsN_any rr cx cy x y w hkk.1 hkk.2
      have N0 := Lib.hid fun h => rowT_other (tk := tk) (cx := cx) (cy := cy) (x := x) (y := y) (r := rr) h
      have N1 := Lib.hid fun h => rowT_bad (tk := tk) (cx := cx) (cy := cy) (x := x) (y := y) (r := rr) h
      have N2 := Lib.hid fun h => rowT_good (tk := tk) (cx := cx) (cy := cy) (x := x) (y := y) (r := rr) h
      have RL := Lib.hid (rowsN_len rr cx cy x y)
      have RG := Lib.hid (rowsN_good (r := rr) (cx := cx) (cy := cy) (bx := x) (b2 := y))
      clear hkk
      generalize rowT tk cx cy x y rr = rt at *
      obtain ⟨R, hR⟩ : ∃ z, rowsN rr cx cy x y = z := ⟨_, rfl⟩
      rw [hR] at RW N1 N2 RL RG
      clear hR
      obtain ⟨pl, en⟩ := R
      simp only at RW N1 N2 RL RG
      go_upto_region 5 with (fail)
      obtain ⟨KG, hb21⟩ := alB wr #[.int .i64 rr.s, .int .u8 rr.k, .int .i64 rr.x, .int .i64 rr.y, .int .i64 rr.v, .int .i64 rr.b, .int .i64 rr.wt, .int .i64 rr.t] 49
      have hnG := HB.out.size
      have nzG_I := KI.out.lt
      have nzG_B := KB.out.lt
      replace HB := hT HB hb21
      replace KI := hK KI hb21
      replace KB := hK KB hb21
      replace HO := Lib.hid (HO.out.below hb21)
      replace HR := Lib.hid (HR.out.below hb21)
      replace HBR := Lib.hid (HBR.out.trans (hb21.mono (Nat.le_trans (Nat.le_refl w1.heap.size) HBR.out.size)))
      clear hb21
      generalize wr.alloc (.cells #[.int .i64 rr.s, .int .u8 rr.k, .int .i64 rr.x, .int .i64 rr.y, .int .i64 rr.v, .int .i64 rr.b, .int .i64 rr.wt, .int .i64 rr.t] 49) = w21 at *
      generalize wr.heap.size = bG at *
      have neG_I : bG ≠ w.heap.size := by omega
      have neG_B : bG ≠ (w.heap.size + 1) := by omega
      clear nzG_I nzG_B
      clear c0 c1 c2 c3 c4 c5 c6 c7 clt
      by_cases ht : rr.t = tk
      · have g : (rr.t != tk) = false := by simpa using ht
        have N3 := Lib.hid (N2.out ht)
        clear N0 N2 ht
        obtain ⟨yI_0, yI_1, yI_2, yI_3, yI_4, yI_5, yI_z⟩ := blk6 KI
        obtain ⟨yB_0, yB_1, yB_2, yB_3, yB_z⟩ := blk4 KB
        obtain ⟨yG_0, yG_1, yG_2, yG_3, yG_4, yG_5, yG_6, yG_7, yG_z⟩ := blk8 KG
        go_wp2_with fail
        refine (RW.out _).mono ?_
        rintro e22 w22 ⟨ur, rfl, hrn, hb22⟩
        replace HB := hT HB hb22
        replace KI := hK KI hb22
        replace KB := hK KB hb22
        replace KG := hK KG hb22
        replace HO := Lib.hid (HO.out.below hb22)
        replace HR := Lib.hid (HR.out.below hb22)
        replace HBR := Lib.hid (HBR.out.trans (hb22.mono (Nat.le_trans (Nat.le_refl w1.heap.size) HBR.out.size)))
        clear yI_0 yI_1 yI_2 yI_3 yI_4 yI_5 yI_z yB_0 yB_1 yB_2 yB_3 yB_z yG_0 yG_1 yG_2 yG_3 yG_4 yG_5 yG_6 yG_7 yG_z
        clear hb22
        clear RW
        by_cases he : en = 0
        · subst he
          have hne := RG.out (by first | rfl | trivial)
          obtain ⟨kk, hur, hk2⟩ : ∃ kk : Nat, ur = .slice (some ⟨kk, 0, none⟩) pl.length pl.length ∧ w22.heap[kk]? = some (.cells (msC pl).toArray 71) := by
            rcases hrn with ⟨e, _⟩ | ⟨kk, _, e, _, h2⟩
            · exact absurd e hne
            · exact ⟨kk, e, h2⟩
          subst hur
          clear hrn RG
          have HK2 := Lib.hid hk2
          clear hk2
          have OL := Lib.hid (World.ownsRow.lt HO.out)
          go_wp2_with (at_builtin; refine Halt.mk ?_)
          unfold Halt
          refine wpList_oml rfl (.tmp 30) (.tmp 31) rfl w1.heap.size u5 (rowsT tk cx cy x y (L.take k)) rfl w22 HO.out kk pl rfl HK2.out (by have := LN.out; have := RL.out; omega) HBR.out.size ?_
          intro u2 w5 ho5 hg5 hat5
          clear hat5 HK2
          have HBR5 := Lib.hid (below_grown HBR.out hg5 HBR.out.size fun k hk => (OL.out k hk).1)
          have HB5 := Lib.hid (below_grown HB.out hg5 HB.out.size fun k hk => Nat.le_trans h11 (OL.out k hk).1)
          clear hg5
          obtain ⟨g5, cap5, hu2⟩ := Go.Joins.ownsRow_form ho5 (show 0 < (rowsT tk cx cy x y (L.take k) ++ pl).length by rw [List.length_append]; have := List.length_pos_iff.2 hne; omega)
          rw [← N3.out] at ho5 hu2
          rw [← SU.out] at ho5 hu2
          have HO6 := Lib.hid ho5
          obtain ⟨N5, hN5⟩ : ∃ N, (rowsT tk cx cy x y (L.take (k + 1))).length = N := ⟨_, rfl⟩
          rw [hN5] at hu2
          clear ho5 hN5
          subst hu2
          clear HO OL hne LN RL SU N1 N3 KG hnG neG_I neG_B HBR HB
          have HBR := HBR5
          go_wp2
          exact ⟨⟨k + 1, by go_num, by omega, HBR, HO6⟩, by simp [intOf]; omega⟩
        · have ge : (en == 0) = false := by simpa using he
          have HO6 := Lib.hid (show OM w1.heap.size w22 u5 (rowsT tk cx cy x y (L.take (k + 1))) from by rw [SU.out, N1.out he, List.append_nil]; exact HO.out)
          clear HO SU N1 N3 RG RL LN
          clear he hrn
          go_wp2
          exact ⟨⟨k + 1, by go_num, by omega, HBR, HO6⟩, by simp [intOf]; omega⟩
      · have g : (rr.t != tk) = true := by simpa using ht
        have HO6 := Lib.hid (show OM w1.heap.size w21 u5 (rowsT tk cx cy x y (L.take (k + 1))) from by rw [SU.out, N0.out ht, List.append_nil]; exact HO.out)
        clear HO SU N0 N1 N2 RG RL LN
        clear ht RW
        obtain ⟨yI_0, yI_1, yI_2, yI_3, yI_4, yI_5, yI_z⟩ := blk6 KI
        obtain ⟨yG_0, yG_1, yG_2, yG_3, yG_4, yG_5, yG_6, yG_7, yG_z⟩ := blk8 KG
        go_wp2
        exact ⟨⟨k + 1, by go_num, by omega, HBR, HO6⟩, by simp [intOf]; omega⟩
    · obtain rfl : k = L.length := by omega
      have q' : decide (L.length < L.length) = false := by simp
      have HO2 := Lib.hid (below_om2 h11 HO.out)
      rw [List.take_length] at HO2
      clear HO
      go_wp2
      go_ret
      exact ⟨⟨_, rfl, HO2.out⟩, HB.out⟩
end Go.Proofs.YtajmjkliblippaaGreatDoor
namespace Go.Proofs.YtajmjkliblippaaGreatDoor
set_option linter.unusedVariables false
open Go.RowKit
set_option maxHeartbeats 8000000 in
set_option maxRecDepth 100000 in
theorem ncheck_any (b : Bx4) (t m : Int) (w : World) : Calls Tryz.prog 14 #[.agg #[.int .i64 b.cx, .int .i64 b.cy, .int .i64 b.x, .int .i64 b.y, .int .i64 t, .int .i64 m]] w fun e w' => e = .returned (.int .i64 (chkS b t m)) ∧ Below w.heap.size w w' := by
  have VA0 := fun w => ival_any b w
  have EV0 : chkS b t m = if bxV b = true then (if 0 ≤ t ∧ t ≤ 1099511627776 ∧ 0 ≤ m ∧ m ≤ 1000 then 0 else 2) else 1 := rfl
  generalize chkS b t m = q at *
  cases hv : bxV b with
  | false =>
    rw [hv, if_neg (by decide)] at EV0
    rw [hv] at VA0
    have VA := Lib.hid VA0
    have EV := Lib.hid EV0
    clear EV0 VA0 hv
    obtain ⟨cx, cy, x, y⟩ := b
    simp only at VA
    obtain ⟨KS, HB⟩ := ent1 w #[.int .i64 cx, .int .i64 cy, .int .i64 x, .int .i64 y, .int .i64 t, .int .i64 m] 27
    go_enter Tryz.func14, Tryz.ntmps14
    go_wp2_with fail
    generalize w.alloc (.cells #[.int .i64 cx, .int .i64 cy, .int .i64 x, .int .i64 y, .int .i64 t, .int .i64 m] 27) = w0 at *
    refine (VA.out _).mono ?_
    rintro e1 w1 ⟨rfl, hb1⟩
    replace HB := hT HB hb1
    replace KS := hK KS hb1
    clear hb1
    go_wp2
    all_goals go_ret
    all_goals exact ⟨ret_int EV.out.symm, HB.out⟩
  | true =>
    rw [hv, if_pos rfl] at EV0
    rw [hv] at VA0
    have VA := Lib.hid VA0
    clear VA0 hv
    obtain ⟨cx, cy, x, y⟩ := b
    simp only at VA
    by_cases h0 : t < 0
    · have g0 : decide (t < 0) = true := by simpa using h0
      have EV := Lib.hid (EV0.trans (if_neg (by omega)))
      clear EV0 h0
      obtain ⟨KS, HB⟩ := ent1 w #[.int .i64 cx, .int .i64 cy, .int .i64 x, .int .i64 y, .int .i64 t, .int .i64 m] 27
      go_enter Tryz.func14, Tryz.ntmps14
      go_wp2_with fail
      generalize w.alloc (.cells #[.int .i64 cx, .int .i64 cy, .int .i64 x, .int .i64 y, .int .i64 t, .int .i64 m] 27) = w0 at *
      refine (VA.out _).mono ?_
      rintro e1 w1 ⟨rfl, hb1⟩
      replace HB := hT HB hb1
      replace KS := hK KS hb1
      clear hb1
      obtain ⟨yS_0, yS_1, yS_2, yS_3, yS_4, yS_5, yS_z⟩ := blk6 KS
      go_wp2
      all_goals go_ret
      all_goals exact ⟨ret_int EV.out.symm, HB.out⟩
    · have g0 : decide (t < 0) = false := by simpa using h0
      by_cases h1 : 1099511627776 < t
      · have g1 : decide (1099511627776 < t) = true := by simpa using h1
        have EV := Lib.hid (EV0.trans (if_neg (by omega)))
        clear EV0 h0 h1
        obtain ⟨KS, HB⟩ := ent1 w #[.int .i64 cx, .int .i64 cy, .int .i64 x, .int .i64 y, .int .i64 t, .int .i64 m] 27
        go_enter Tryz.func14, Tryz.ntmps14
        go_wp2_with fail
        generalize w.alloc (.cells #[.int .i64 cx, .int .i64 cy, .int .i64 x, .int .i64 y, .int .i64 t, .int .i64 m] 27) = w0 at *
        refine (VA.out _).mono ?_
        rintro e1 w1 ⟨rfl, hb1⟩
        replace HB := hT HB hb1
        replace KS := hK KS hb1
        clear hb1
        obtain ⟨yS_0, yS_1, yS_2, yS_3, yS_4, yS_5, yS_z⟩ := blk6 KS
        go_wp2
        all_goals go_ret
        all_goals exact ⟨ret_int EV.out.symm, HB.out⟩
      · have g1 : decide (1099511627776 < t) = false := by simpa using h1
        by_cases h2 : m < 0
        · have g2 : decide (m < 0) = true := by simpa using h2
          have EV := Lib.hid (EV0.trans (if_neg (by omega)))
          clear EV0 h0 h1 h2
          obtain ⟨KS, HB⟩ := ent1 w #[.int .i64 cx, .int .i64 cy, .int .i64 x, .int .i64 y, .int .i64 t, .int .i64 m] 27
          go_enter Tryz.func14, Tryz.ntmps14
          go_wp2_with fail
          generalize w.alloc (.cells #[.int .i64 cx, .int .i64 cy, .int .i64 x, .int .i64 y, .int .i64 t, .int .i64 m] 27) = w0 at *
          refine (VA.out _).mono ?_
          rintro e1 w1 ⟨rfl, hb1⟩
          replace HB := hT HB hb1
          replace KS := hK KS hb1
          clear hb1
          obtain ⟨yS_0, yS_1, yS_2, yS_3, yS_4, yS_5, yS_z⟩ := blk6 KS
          go_wp2
          all_goals go_ret
          all_goals exact ⟨ret_int EV.out.symm, HB.out⟩
        · have g2 : decide (m < 0) = false := by simpa using h2
          by_cases h3 : 1000 < m
          · have g3 : decide (1000 < m) = true := by simpa using h3
            have EV := Lib.hid (EV0.trans (if_neg (by omega)))
            clear EV0 h0 h1 h2 h3
            obtain ⟨KS, HB⟩ := ent1 w #[.int .i64 cx, .int .i64 cy, .int .i64 x, .int .i64 y, .int .i64 t, .int .i64 m] 27
            go_enter Tryz.func14, Tryz.ntmps14
            go_wp2_with fail
            generalize w.alloc (.cells #[.int .i64 cx, .int .i64 cy, .int .i64 x, .int .i64 y, .int .i64 t, .int .i64 m] 27) = w0 at *
            refine (VA.out _).mono ?_
            rintro e1 w1 ⟨rfl, hb1⟩
            replace HB := hT HB hb1
            replace KS := hK KS hb1
            clear hb1
            obtain ⟨yS_0, yS_1, yS_2, yS_3, yS_4, yS_5, yS_z⟩ := blk6 KS
            go_wp2
            all_goals go_ret
            all_goals exact ⟨ret_int EV.out.symm, HB.out⟩
          · have g3 : decide (1000 < m) = false := by simpa using h3
            have EV := Lib.hid (EV0.trans (if_pos (by omega)))
            clear EV0 h0 h1 h2 h3
            obtain ⟨KS, HB⟩ := ent1 w #[.int .i64 cx, .int .i64 cy, .int .i64 x, .int .i64 y, .int .i64 t, .int .i64 m] 27
            go_enter Tryz.func14, Tryz.ntmps14
            go_wp2_with fail
            generalize w.alloc (.cells #[.int .i64 cx, .int .i64 cy, .int .i64 x, .int .i64 y, .int .i64 t, .int .i64 m] 27) = w0 at *
            refine (VA.out _).mono ?_
            rintro e1 w1 ⟨rfl, hb1⟩
            replace HB := hT HB hb1
            replace KS := hK KS hb1
            clear hb1
            obtain ⟨yS_0, yS_1, yS_2, yS_3, yS_4, yS_5, yS_z⟩ := blk6 KS
            go_wp2
            all_goals go_ret
            all_goals exact ⟨ret_int EV.out.symm, HB.out⟩
def useB (lx ly rq : Int) : Bool := decide (lx ≤ rq) && decide (ly ≤ rq)
set_option maxHeartbeats 8000000 in
set_option maxRecDepth 100000 in
theorem usable_any (px py lx ly ex rq : Int) (us : Bool) (w : World) : Calls Tryz.prog 22 #[.agg #[.int .i64 px, .int .i64 py, .int .i64 lx, .int .i64 ly, .bool us, .int .i64 ex], .int .i64 rq] w fun e w' => e = .returned (.bool (useB lx ly rq)) ∧ Below w.heap.size w w' := by
  have EV0 : useB lx ly rq = (decide (lx ≤ rq) && decide (ly ≤ rq)) := rfl
  generalize useB lx ly rq = q at *
  cases h : decide (lx ≤ rq) <;> cases h2 : decide (ly ≤ rq) <;> rw [h, h2] at EV0 <;> simp at EV0
  all_goals
    have EV := Lib.hid EV0
    clear EV0
    obtain ⟨KE, HB⟩ := ent1 w #[.int .i64 px, .int .i64 py, .int .i64 lx, .int .i64 ly, .bool us, .int .i64 ex] 41
    go_enter Tryz.func22, Tryz.ntmps22
    go_wp2
    go_ret
    exact ⟨ret_b EV.out.symm, HB.out⟩
end Go.Proofs.YtajmjkliblippaaGreatDoor
namespace Go.Proofs.YtajmjkliblippaaGreatDoor
set_option linter.unusedVariables false
open Go.RowKit
theorem agN_any (r : Rp) (px py : Int) (w : World) (k0 : 0 ≤ r.k) (k1 : r.k ≤ 255) : Calls Tryz.prog 50 #[.agg #[.int .i64 r.s, .int .u8 r.k, .int .i64 r.x, .int .i64 r.y, .int .i64 r.v, .int .i64 r.b, .int .i64 r.wt, .int .i64 r.t], .agg #[.int .i64 px, .int .i64 py]] w fun e w' => e = .returned (.bool (agN r px py)) ∧ Below w.heap.size w w' := S41.agrees_any r.s r.k r.x r.y r.v r.b r.wt r.t px py w k0 k1
theorem inN_any (cx cy bx b2 px py : Int) (w : World) : Calls Tryz.prog 24 #[.agg #[.int .i64 cx, .int .i64 cy, .int .i64 bx, .int .i64 b2], .agg #[.int .i64 px, .int .i64 py]] w fun e w' => e = .returned (.bool (inN cx cy bx b2 px py)) ∧ Below w.heap.size w w' := S41.inside_any cx cy bx b2 px py w
end Go.Proofs.YtajmjkliblippaaGreatDoor
namespace Go.Proofs.YtajmjkliblippaaGreatDoor
set_option linter.unusedVariables false
open Go.RowKit
set_option maxHeartbeats 40000000 in
set_option maxRecDepth 100000 in
theorem step_badR (b : Bx4) (t m tick ve vn dr rq : Int) (L : List Rp) (v : Value) (w : World) (h : RlG L v w) (hl : L.length ≤ 9223372036854775807) (he : stpE2 b t m tick ve vn dr rq L.length ≠ 0) :
    Calls Tryz.prog 17 #[.agg #[.int .i64 b.cx, .int .i64 b.cy, .int .i64 b.x, .int .i64 b.y, .int .i64 t, .int .i64 m], .agg #[.int .i64 tick, v, .int .i64 ve, .int .i64 vn, .int .i64 dr, .int .i64 rq]] w fun e w' => e = .returned (.tuple #[.agg #[.int .i64 0, .int .i64 0, .int .i64 0, .int .i64 0, .int .i64 0, .int .i64 0], .agg #[.int .i64 0, .int .i64 0, .int .i64 0, .int .i64 0, .bool false, .int .i64 0], .int .i64 (stpE2 b t m tick ve vn dr rq L.length)]) ∧ Below w.heap.size w w' := by
  obtain ⟨p, cap, rfl⟩ := rg_form h
  clear h
  have CK0 := fun w => ncheck_any b t m w
  have EV0 : stpE2 b t m tick ve vn dr rq L.length = if chkS b t m ≠ 0 then chkS b t m else if tick ≤ t then 16 else if 1099511627776 < tick ∨ rq < 0 ∨ 2000000 < rq then 2 else if 8 < L.length then 3 else (cstF b ve vn dr (tick - t)).2 := rfl
  have CO0 := fun w => coast_any b ve vn dr (tick - t) w
  have CB := cst_bad (b := b) (ve := ve) (vn := vn) (dr := dr) (tk := tick - t)
  have CS := chkS_ok (b := b) (t := t) (m := m)
  generalize stpE2 b t m tick ve vn dr rq L.length = q at *
  generalize L.length = n at *
  by_cases hc : chkS b t m = 0
  · obtain ⟨_, ⟨c0, c1⟩, _, _⟩ := CS hc
    clear CS
    rw [if_neg (by omega)] at EV0
    rw [hc] at CK0
    have CK := Lib.hid CK0
    clear CK0 hc
    by_cases h0 : tick ≤ t
    · have g0 : decide (tick ≤ t) = true := by simpa using h0
      have EV := Lib.hid (EV0.trans (if_pos h0))
      clear EV0 h0 CO0 CB he c0 c1
      obtain ⟨cx, cy, x, y⟩ := b
      simp only at CK
      obtain ⟨KS, KI, KA, KE, KC, HB⟩ := ent5 w #[.int .i64 cx, .int .i64 cy, .int .i64 x, .int .i64 y, .int .i64 t, .int .i64 m] 27 #[.int .i64 tick, .slice p n cap, .int .i64 ve, .int .i64 vn, .int .i64 dr, .int .i64 rq] 38 #[.int .i64 0, .int .i64 0, .int .i64 0, .int .i64 0, .int .i64 0, .int .i64 0] 27 #[.int .i64 0, .int .i64 0, .int .i64 0, .int .i64 0, .bool false, .int .i64 0] 41 #[.int .i64 0, .int .i64 0, .int .i64 0, .int .i64 0] 25
      go_enter Tryz.func17, Tryz.ntmps17
      go_wp2_with fail
      generalize ((((w.alloc (.cells #[.int .i64 cx, .int .i64 cy, .int .i64 x, .int .i64 y, .int .i64 t, .int .i64 m] 27)).alloc (.cells #[.int .i64 tick, .slice p n cap, .int .i64 ve, .int .i64 vn, .int .i64 dr, .int .i64 rq] 38)).alloc (.cells #[.int .i64 0, .int .i64 0, .int .i64 0, .int .i64 0, .int .i64 0, .int .i64 0] 27)).alloc (.cells #[.int .i64 0, .int .i64 0, .int .i64 0, .int .i64 0, .bool false, .int .i64 0] 41)).alloc (.cells #[.int .i64 0, .int .i64 0, .int .i64 0, .int .i64 0] 25) = w0 at *
      refine (CK.out _).mono ?_
      rintro e1 w1 ⟨rfl, hb1⟩
      replace HB := hT HB hb1
      replace KS := hK KS hb1
      replace KI := hK KI hb1
      replace KA := hK KA hb1
      replace KE := hK KE hb1
      replace KC := hK KC hb1
      clear hb1
      obtain ⟨yS_0, yS_1, yS_2, yS_3, yS_4, yS_5, yS_z⟩ := blk6 KS
      obtain ⟨yI_0, yI_1, yI_2, yI_3, yI_4, yI_5, yI_z⟩ := blk6 KI
      obtain ⟨yA_0, yA_1, yA_2, yA_3, yA_4, yA_5, yA_z, yA_f0, yA_f1, yA_f2, yA_f3, yA_f4, yA_f5⟩ := blf6 KA
      obtain ⟨yE_0, yE_1, yE_2, yE_3, yE_4, yE_5, yE_z, yE_f0, yE_f1, yE_f2, yE_f3, yE_f4, yE_f5⟩ := blf6 KE
      go_wp2
      have hs := st6 w1 (w.heap.size + 1 + 1) 0 (.int .i64 0) 1 (.int .i64 0) 2 (.int .i64 0) 3 (.int .i64 0) 4 (.int .i64 0) 5 (.int .i64 0)
      replace KS := oB hs KS (by omega)
      replace KI := oB hs KI (by omega)
      replace KA := Lib.hid (blk_set (blk_set (blk_set (blk_set (blk_set (blk_set KA.out (j := 0) (by simp) (.int .i64 0)) (j := 1) (by simp) (.int .i64 0)) (j := 2) (by simp) (.int .i64 0)) (j := 3) (by simp) (.int .i64 0)) (j := 4) (by simp) (.int .i64 0)) (j := 5) (by simp) (.int .i64 0))
      replace KE := oB hs KE (by omega)
      replace KC := oB hs KC (by omega)
      replace HB := oH hs HB (by omega)
      clear hs
      clear yS_0 yS_1 yS_2 yS_3 yS_4 yS_5 yS_z yI_0 yI_1 yI_2 yI_3 yI_4 yI_5 yI_z yA_0 yA_1 yA_2 yA_3 yA_4 yA_5 yA_z yA_f0 yA_f1 yA_f2 yA_f3 yA_f4 yA_f5 yE_0 yE_1 yE_2 yE_3 yE_4 yE_5 yE_z yE_f0 yE_f1 yE_f2 yE_f3 yE_f4 yE_f5
      simp only [List.set] at KA
      have hs := st6 ((((((w1.setCell ⟨(w.heap.size + 1 + 1), 0, none⟩ (.int .i64 0)).setCell ⟨(w.heap.size + 1 + 1), 1, none⟩ (.int .i64 0)).setCell ⟨(w.heap.size + 1 + 1), 2, none⟩ (.int .i64 0)).setCell ⟨(w.heap.size + 1 + 1), 3, none⟩ (.int .i64 0)).setCell ⟨(w.heap.size + 1 + 1), 4, none⟩ (.int .i64 0)).setCell ⟨(w.heap.size + 1 + 1), 5, none⟩ (.int .i64 0)) (w.heap.size + 1 + 1 + 1) 0 (.int .i64 0) 1 (.int .i64 0) 2 (.int .i64 0) 3 (.int .i64 0) 4 (.bool false) 5 (.int .i64 0)
      replace KS := oB hs KS (by omega)
      replace KI := oB hs KI (by omega)
      replace KA := oB hs KA (by omega)
      replace KE := Lib.hid (blk_set (blk_set (blk_set (blk_set (blk_set (blk_set KE.out (j := 0) (by simp) (.int .i64 0)) (j := 1) (by simp) (.int .i64 0)) (j := 2) (by simp) (.int .i64 0)) (j := 3) (by simp) (.int .i64 0)) (j := 4) (by simp) (.bool false)) (j := 5) (by simp) (.int .i64 0))
      replace KC := oB hs KC (by omega)
      replace HB := oH hs HB (by omega)
      clear hs
      generalize (((((((((((w1.setCell ⟨(w.heap.size + 1 + 1), 0, none⟩ (.int .i64 0)).setCell ⟨(w.heap.size + 1 + 1), 1, none⟩ (.int .i64 0)).setCell ⟨(w.heap.size + 1 + 1), 2, none⟩ (.int .i64 0)).setCell ⟨(w.heap.size + 1 + 1), 3, none⟩ (.int .i64 0)).setCell ⟨(w.heap.size + 1 + 1), 4, none⟩ (.int .i64 0)).setCell ⟨(w.heap.size + 1 + 1), 5, none⟩ (.int .i64 0)).setCell ⟨(w.heap.size + 1 + 1 + 1), 0, none⟩ (.int .i64 0)).setCell ⟨(w.heap.size + 1 + 1 + 1), 1, none⟩ (.int .i64 0)).setCell ⟨(w.heap.size + 1 + 1 + 1), 2, none⟩ (.int .i64 0)).setCell ⟨(w.heap.size + 1 + 1 + 1), 3, none⟩ (.int .i64 0)).setCell ⟨(w.heap.size + 1 + 1 + 1), 4, none⟩ (.bool false)).setCell ⟨(w.heap.size + 1 + 1 + 1), 5, none⟩ (.int .i64 0) = w3 at *
      simp only [List.set] at KE
      obtain ⟨yA_0, yA_1, yA_2, yA_3, yA_4, yA_5, yA_z⟩ := blk6 KA
      obtain ⟨yE_0, yE_1, yE_2, yE_3, yE_4, yE_5, yE_z⟩ := blk6 KE
      refine bodyPost_ret (v := .tuple #[.agg #[.int .i64 0, .int .i64 0, .int .i64 0, .int .i64 0, .int .i64 0, .int .i64 0], .agg #[.int .i64 0, .int .i64 0, .int .i64 0, .int .i64 0, .bool false, .int .i64 0], .int .i64 16]) (by simp [results, Tryz.results17, go_sem, yA_0, yA_1, yA_2, yA_3, yA_4, yA_5, yE_0, yE_1, yE_2, yE_3, yE_4, yE_5]) rfl ⟨by rw [EV.out], HB.out⟩
    · have g0 : decide (tick ≤ t) = false := by simpa using h0
      rw [if_neg h0] at EV0
      by_cases h1 : 1099511627776 < tick
      · have g1 : decide (1099511627776 < tick) = true := by simpa using h1
        have EV := Lib.hid (EV0.trans (if_pos (by omega)))
        clear EV0 h0 h1 CO0 CB he c0 c1
        obtain ⟨cx, cy, x, y⟩ := b
        simp only at CK
        obtain ⟨KS, KI, KA, KE, KC, HB⟩ := ent5 w #[.int .i64 cx, .int .i64 cy, .int .i64 x, .int .i64 y, .int .i64 t, .int .i64 m] 27 #[.int .i64 tick, .slice p n cap, .int .i64 ve, .int .i64 vn, .int .i64 dr, .int .i64 rq] 38 #[.int .i64 0, .int .i64 0, .int .i64 0, .int .i64 0, .int .i64 0, .int .i64 0] 27 #[.int .i64 0, .int .i64 0, .int .i64 0, .int .i64 0, .bool false, .int .i64 0] 41 #[.int .i64 0, .int .i64 0, .int .i64 0, .int .i64 0] 25
        go_enter Tryz.func17, Tryz.ntmps17
        go_wp2_with fail
        generalize ((((w.alloc (.cells #[.int .i64 cx, .int .i64 cy, .int .i64 x, .int .i64 y, .int .i64 t, .int .i64 m] 27)).alloc (.cells #[.int .i64 tick, .slice p n cap, .int .i64 ve, .int .i64 vn, .int .i64 dr, .int .i64 rq] 38)).alloc (.cells #[.int .i64 0, .int .i64 0, .int .i64 0, .int .i64 0, .int .i64 0, .int .i64 0] 27)).alloc (.cells #[.int .i64 0, .int .i64 0, .int .i64 0, .int .i64 0, .bool false, .int .i64 0] 41)).alloc (.cells #[.int .i64 0, .int .i64 0, .int .i64 0, .int .i64 0] 25) = w0 at *
        refine (CK.out _).mono ?_
        rintro e1 w1 ⟨rfl, hb1⟩
        replace HB := hT HB hb1
        replace KS := hK KS hb1
        replace KI := hK KI hb1
        replace KA := hK KA hb1
        replace KE := hK KE hb1
        replace KC := hK KC hb1
        clear hb1
        obtain ⟨yS_0, yS_1, yS_2, yS_3, yS_4, yS_5, yS_z⟩ := blk6 KS
        obtain ⟨yI_0, yI_1, yI_2, yI_3, yI_4, yI_5, yI_z⟩ := blk6 KI
        obtain ⟨yA_0, yA_1, yA_2, yA_3, yA_4, yA_5, yA_z, yA_f0, yA_f1, yA_f2, yA_f3, yA_f4, yA_f5⟩ := blf6 KA
        obtain ⟨yE_0, yE_1, yE_2, yE_3, yE_4, yE_5, yE_z, yE_f0, yE_f1, yE_f2, yE_f3, yE_f4, yE_f5⟩ := blf6 KE
        go_wp2
        have hs := st6 w1 (w.heap.size + 1 + 1) 0 (.int .i64 0) 1 (.int .i64 0) 2 (.int .i64 0) 3 (.int .i64 0) 4 (.int .i64 0) 5 (.int .i64 0)
        replace KS := oB hs KS (by omega)
        replace KI := oB hs KI (by omega)
        replace KA := Lib.hid (blk_set (blk_set (blk_set (blk_set (blk_set (blk_set KA.out (j := 0) (by simp) (.int .i64 0)) (j := 1) (by simp) (.int .i64 0)) (j := 2) (by simp) (.int .i64 0)) (j := 3) (by simp) (.int .i64 0)) (j := 4) (by simp) (.int .i64 0)) (j := 5) (by simp) (.int .i64 0))
        replace KE := oB hs KE (by omega)
        replace KC := oB hs KC (by omega)
        replace HB := oH hs HB (by omega)
        clear hs
        clear yS_0 yS_1 yS_2 yS_3 yS_4 yS_5 yS_z yI_0 yI_1 yI_2 yI_3 yI_4 yI_5 yI_z yA_0 yA_1 yA_2 yA_3 yA_4 yA_5 yA_z yA_f0 yA_f1 yA_f2 yA_f3 yA_f4 yA_f5 yE_0 yE_1 yE_2 yE_3 yE_4 yE_5 yE_z yE_f0 yE_f1 yE_f2 yE_f3 yE_f4 yE_f5
        simp only [List.set] at KA
        have hs := st6 ((((((w1.setCell ⟨(w.heap.size + 1 + 1), 0, none⟩ (.int .i64 0)).setCell ⟨(w.heap.size + 1 + 1), 1, none⟩ (.int .i64 0)).setCell ⟨(w.heap.size + 1 + 1), 2, none⟩ (.int .i64 0)).setCell ⟨(w.heap.size + 1 + 1), 3, none⟩ (.int .i64 0)).setCell ⟨(w.heap.size + 1 + 1), 4, none⟩ (.int .i64 0)).setCell ⟨(w.heap.size + 1 + 1), 5, none⟩ (.int .i64 0)) (w.heap.size + 1 + 1 + 1) 0 (.int .i64 0) 1 (.int .i64 0) 2 (.int .i64 0) 3 (.int .i64 0) 4 (.bool false) 5 (.int .i64 0)
        replace KS := oB hs KS (by omega)
        replace KI := oB hs KI (by omega)
        replace KA := oB hs KA (by omega)
        replace KE := Lib.hid (blk_set (blk_set (blk_set (blk_set (blk_set (blk_set KE.out (j := 0) (by simp) (.int .i64 0)) (j := 1) (by simp) (.int .i64 0)) (j := 2) (by simp) (.int .i64 0)) (j := 3) (by simp) (.int .i64 0)) (j := 4) (by simp) (.bool false)) (j := 5) (by simp) (.int .i64 0))
        replace KC := oB hs KC (by omega)
        replace HB := oH hs HB (by omega)
        clear hs
        generalize (((((((((((w1.setCell ⟨(w.heap.size + 1 + 1), 0, none⟩ (.int .i64 0)).setCell ⟨(w.heap.size + 1 + 1), 1, none⟩ (.int .i64 0)).setCell ⟨(w.heap.size + 1 + 1), 2, none⟩ (.int .i64 0)).setCell ⟨(w.heap.size + 1 + 1), 3, none⟩ (.int .i64 0)).setCell ⟨(w.heap.size + 1 + 1), 4, none⟩ (.int .i64 0)).setCell ⟨(w.heap.size + 1 + 1), 5, none⟩ (.int .i64 0)).setCell ⟨(w.heap.size + 1 + 1 + 1), 0, none⟩ (.int .i64 0)).setCell ⟨(w.heap.size + 1 + 1 + 1), 1, none⟩ (.int .i64 0)).setCell ⟨(w.heap.size + 1 + 1 + 1), 2, none⟩ (.int .i64 0)).setCell ⟨(w.heap.size + 1 + 1 + 1), 3, none⟩ (.int .i64 0)).setCell ⟨(w.heap.size + 1 + 1 + 1), 4, none⟩ (.bool false)).setCell ⟨(w.heap.size + 1 + 1 + 1), 5, none⟩ (.int .i64 0) = w3 at *
        simp only [List.set] at KE
        obtain ⟨yA_0, yA_1, yA_2, yA_3, yA_4, yA_5, yA_z⟩ := blk6 KA
        obtain ⟨yE_0, yE_1, yE_2, yE_3, yE_4, yE_5, yE_z⟩ := blk6 KE
        refine bodyPost_ret (v := .tuple #[.agg #[.int .i64 0, .int .i64 0, .int .i64 0, .int .i64 0, .int .i64 0, .int .i64 0], .agg #[.int .i64 0, .int .i64 0, .int .i64 0, .int .i64 0, .bool false, .int .i64 0], .int .i64 2]) (by simp [results, Tryz.results17, go_sem, yA_0, yA_1, yA_2, yA_3, yA_4, yA_5, yE_0, yE_1, yE_2, yE_3, yE_4, yE_5]) rfl ⟨by rw [EV.out], HB.out⟩
      · have g1 : decide (1099511627776 < tick) = false := by simpa using h1
        by_cases h2 : rq < 0
        · have g2 : decide (rq < 0) = true := by simpa using h2
          have EV := Lib.hid (EV0.trans (if_pos (by omega)))
          clear EV0 h0 h1 h2 CO0 CB he c0 c1
          obtain ⟨cx, cy, x, y⟩ := b
          simp only at CK
          obtain ⟨KS, KI, KA, KE, KC, HB⟩ := ent5 w #[.int .i64 cx, .int .i64 cy, .int .i64 x, .int .i64 y, .int .i64 t, .int .i64 m] 27 #[.int .i64 tick, .slice p n cap, .int .i64 ve, .int .i64 vn, .int .i64 dr, .int .i64 rq] 38 #[.int .i64 0, .int .i64 0, .int .i64 0, .int .i64 0, .int .i64 0, .int .i64 0] 27 #[.int .i64 0, .int .i64 0, .int .i64 0, .int .i64 0, .bool false, .int .i64 0] 41 #[.int .i64 0, .int .i64 0, .int .i64 0, .int .i64 0] 25
          go_enter Tryz.func17, Tryz.ntmps17
          go_wp2_with fail
          generalize ((((w.alloc (.cells #[.int .i64 cx, .int .i64 cy, .int .i64 x, .int .i64 y, .int .i64 t, .int .i64 m] 27)).alloc (.cells #[.int .i64 tick, .slice p n cap, .int .i64 ve, .int .i64 vn, .int .i64 dr, .int .i64 rq] 38)).alloc (.cells #[.int .i64 0, .int .i64 0, .int .i64 0, .int .i64 0, .int .i64 0, .int .i64 0] 27)).alloc (.cells #[.int .i64 0, .int .i64 0, .int .i64 0, .int .i64 0, .bool false, .int .i64 0] 41)).alloc (.cells #[.int .i64 0, .int .i64 0, .int .i64 0, .int .i64 0] 25) = w0 at *
          refine (CK.out _).mono ?_
          rintro e1 w1 ⟨rfl, hb1⟩
          replace HB := hT HB hb1
          replace KS := hK KS hb1
          replace KI := hK KI hb1
          replace KA := hK KA hb1
          replace KE := hK KE hb1
          replace KC := hK KC hb1
          clear hb1
          obtain ⟨yS_0, yS_1, yS_2, yS_3, yS_4, yS_5, yS_z⟩ := blk6 KS
          obtain ⟨yI_0, yI_1, yI_2, yI_3, yI_4, yI_5, yI_z⟩ := blk6 KI
          obtain ⟨yA_0, yA_1, yA_2, yA_3, yA_4, yA_5, yA_z, yA_f0, yA_f1, yA_f2, yA_f3, yA_f4, yA_f5⟩ := blf6 KA
          obtain ⟨yE_0, yE_1, yE_2, yE_3, yE_4, yE_5, yE_z, yE_f0, yE_f1, yE_f2, yE_f3, yE_f4, yE_f5⟩ := blf6 KE
          go_wp2
          have hs := st6 w1 (w.heap.size + 1 + 1) 0 (.int .i64 0) 1 (.int .i64 0) 2 (.int .i64 0) 3 (.int .i64 0) 4 (.int .i64 0) 5 (.int .i64 0)
          replace KS := oB hs KS (by omega)
          replace KI := oB hs KI (by omega)
          replace KA := Lib.hid (blk_set (blk_set (blk_set (blk_set (blk_set (blk_set KA.out (j := 0) (by simp) (.int .i64 0)) (j := 1) (by simp) (.int .i64 0)) (j := 2) (by simp) (.int .i64 0)) (j := 3) (by simp) (.int .i64 0)) (j := 4) (by simp) (.int .i64 0)) (j := 5) (by simp) (.int .i64 0))
          replace KE := oB hs KE (by omega)
          replace KC := oB hs KC (by omega)
          replace HB := oH hs HB (by omega)
          clear hs
          clear yS_0 yS_1 yS_2 yS_3 yS_4 yS_5 yS_z yI_0 yI_1 yI_2 yI_3 yI_4 yI_5 yI_z yA_0 yA_1 yA_2 yA_3 yA_4 yA_5 yA_z yA_f0 yA_f1 yA_f2 yA_f3 yA_f4 yA_f5 yE_0 yE_1 yE_2 yE_3 yE_4 yE_5 yE_z yE_f0 yE_f1 yE_f2 yE_f3 yE_f4 yE_f5
          simp only [List.set] at KA
          have hs := st6 ((((((w1.setCell ⟨(w.heap.size + 1 + 1), 0, none⟩ (.int .i64 0)).setCell ⟨(w.heap.size + 1 + 1), 1, none⟩ (.int .i64 0)).setCell ⟨(w.heap.size + 1 + 1), 2, none⟩ (.int .i64 0)).setCell ⟨(w.heap.size + 1 + 1), 3, none⟩ (.int .i64 0)).setCell ⟨(w.heap.size + 1 + 1), 4, none⟩ (.int .i64 0)).setCell ⟨(w.heap.size + 1 + 1), 5, none⟩ (.int .i64 0)) (w.heap.size + 1 + 1 + 1) 0 (.int .i64 0) 1 (.int .i64 0) 2 (.int .i64 0) 3 (.int .i64 0) 4 (.bool false) 5 (.int .i64 0)
          replace KS := oB hs KS (by omega)
          replace KI := oB hs KI (by omega)
          replace KA := oB hs KA (by omega)
          replace KE := Lib.hid (blk_set (blk_set (blk_set (blk_set (blk_set (blk_set KE.out (j := 0) (by simp) (.int .i64 0)) (j := 1) (by simp) (.int .i64 0)) (j := 2) (by simp) (.int .i64 0)) (j := 3) (by simp) (.int .i64 0)) (j := 4) (by simp) (.bool false)) (j := 5) (by simp) (.int .i64 0))
          replace KC := oB hs KC (by omega)
          replace HB := oH hs HB (by omega)
          clear hs
          generalize (((((((((((w1.setCell ⟨(w.heap.size + 1 + 1), 0, none⟩ (.int .i64 0)).setCell ⟨(w.heap.size + 1 + 1), 1, none⟩ (.int .i64 0)).setCell ⟨(w.heap.size + 1 + 1), 2, none⟩ (.int .i64 0)).setCell ⟨(w.heap.size + 1 + 1), 3, none⟩ (.int .i64 0)).setCell ⟨(w.heap.size + 1 + 1), 4, none⟩ (.int .i64 0)).setCell ⟨(w.heap.size + 1 + 1), 5, none⟩ (.int .i64 0)).setCell ⟨(w.heap.size + 1 + 1 + 1), 0, none⟩ (.int .i64 0)).setCell ⟨(w.heap.size + 1 + 1 + 1), 1, none⟩ (.int .i64 0)).setCell ⟨(w.heap.size + 1 + 1 + 1), 2, none⟩ (.int .i64 0)).setCell ⟨(w.heap.size + 1 + 1 + 1), 3, none⟩ (.int .i64 0)).setCell ⟨(w.heap.size + 1 + 1 + 1), 4, none⟩ (.bool false)).setCell ⟨(w.heap.size + 1 + 1 + 1), 5, none⟩ (.int .i64 0) = w3 at *
          simp only [List.set] at KE
          obtain ⟨yA_0, yA_1, yA_2, yA_3, yA_4, yA_5, yA_z⟩ := blk6 KA
          obtain ⟨yE_0, yE_1, yE_2, yE_3, yE_4, yE_5, yE_z⟩ := blk6 KE
          refine bodyPost_ret (v := .tuple #[.agg #[.int .i64 0, .int .i64 0, .int .i64 0, .int .i64 0, .int .i64 0, .int .i64 0], .agg #[.int .i64 0, .int .i64 0, .int .i64 0, .int .i64 0, .bool false, .int .i64 0], .int .i64 2]) (by simp [results, Tryz.results17, go_sem, yA_0, yA_1, yA_2, yA_3, yA_4, yA_5, yE_0, yE_1, yE_2, yE_3, yE_4, yE_5]) rfl ⟨by rw [EV.out], HB.out⟩
        · have g2 : decide (rq < 0) = false := by simpa using h2
          by_cases h3 : 2000000 < rq
          · have g3 : decide (2000000 < rq) = true := by simpa using h3
            have EV := Lib.hid (EV0.trans (if_pos (by omega)))
            clear EV0 h0 h1 h2 h3 CO0 CB he c0 c1
            obtain ⟨cx, cy, x, y⟩ := b
            simp only at CK
            obtain ⟨KS, KI, KA, KE, KC, HB⟩ := ent5 w #[.int .i64 cx, .int .i64 cy, .int .i64 x, .int .i64 y, .int .i64 t, .int .i64 m] 27 #[.int .i64 tick, .slice p n cap, .int .i64 ve, .int .i64 vn, .int .i64 dr, .int .i64 rq] 38 #[.int .i64 0, .int .i64 0, .int .i64 0, .int .i64 0, .int .i64 0, .int .i64 0] 27 #[.int .i64 0, .int .i64 0, .int .i64 0, .int .i64 0, .bool false, .int .i64 0] 41 #[.int .i64 0, .int .i64 0, .int .i64 0, .int .i64 0] 25
            go_enter Tryz.func17, Tryz.ntmps17
            go_wp2_with fail
            generalize ((((w.alloc (.cells #[.int .i64 cx, .int .i64 cy, .int .i64 x, .int .i64 y, .int .i64 t, .int .i64 m] 27)).alloc (.cells #[.int .i64 tick, .slice p n cap, .int .i64 ve, .int .i64 vn, .int .i64 dr, .int .i64 rq] 38)).alloc (.cells #[.int .i64 0, .int .i64 0, .int .i64 0, .int .i64 0, .int .i64 0, .int .i64 0] 27)).alloc (.cells #[.int .i64 0, .int .i64 0, .int .i64 0, .int .i64 0, .bool false, .int .i64 0] 41)).alloc (.cells #[.int .i64 0, .int .i64 0, .int .i64 0, .int .i64 0] 25) = w0 at *
            refine (CK.out _).mono ?_
            rintro e1 w1 ⟨rfl, hb1⟩
            replace HB := hT HB hb1
            replace KS := hK KS hb1
            replace KI := hK KI hb1
            replace KA := hK KA hb1
            replace KE := hK KE hb1
            replace KC := hK KC hb1
            clear hb1
            obtain ⟨yS_0, yS_1, yS_2, yS_3, yS_4, yS_5, yS_z⟩ := blk6 KS
            obtain ⟨yI_0, yI_1, yI_2, yI_3, yI_4, yI_5, yI_z⟩ := blk6 KI
            obtain ⟨yA_0, yA_1, yA_2, yA_3, yA_4, yA_5, yA_z, yA_f0, yA_f1, yA_f2, yA_f3, yA_f4, yA_f5⟩ := blf6 KA
            obtain ⟨yE_0, yE_1, yE_2, yE_3, yE_4, yE_5, yE_z, yE_f0, yE_f1, yE_f2, yE_f3, yE_f4, yE_f5⟩ := blf6 KE
            go_wp2
            have hs := st6 w1 (w.heap.size + 1 + 1) 0 (.int .i64 0) 1 (.int .i64 0) 2 (.int .i64 0) 3 (.int .i64 0) 4 (.int .i64 0) 5 (.int .i64 0)
            replace KS := oB hs KS (by omega)
            replace KI := oB hs KI (by omega)
            replace KA := Lib.hid (blk_set (blk_set (blk_set (blk_set (blk_set (blk_set KA.out (j := 0) (by simp) (.int .i64 0)) (j := 1) (by simp) (.int .i64 0)) (j := 2) (by simp) (.int .i64 0)) (j := 3) (by simp) (.int .i64 0)) (j := 4) (by simp) (.int .i64 0)) (j := 5) (by simp) (.int .i64 0))
            replace KE := oB hs KE (by omega)
            replace KC := oB hs KC (by omega)
            replace HB := oH hs HB (by omega)
            clear hs
            clear yS_0 yS_1 yS_2 yS_3 yS_4 yS_5 yS_z yI_0 yI_1 yI_2 yI_3 yI_4 yI_5 yI_z yA_0 yA_1 yA_2 yA_3 yA_4 yA_5 yA_z yA_f0 yA_f1 yA_f2 yA_f3 yA_f4 yA_f5 yE_0 yE_1 yE_2 yE_3 yE_4 yE_5 yE_z yE_f0 yE_f1 yE_f2 yE_f3 yE_f4 yE_f5
            simp only [List.set] at KA
            have hs := st6 ((((((w1.setCell ⟨(w.heap.size + 1 + 1), 0, none⟩ (.int .i64 0)).setCell ⟨(w.heap.size + 1 + 1), 1, none⟩ (.int .i64 0)).setCell ⟨(w.heap.size + 1 + 1), 2, none⟩ (.int .i64 0)).setCell ⟨(w.heap.size + 1 + 1), 3, none⟩ (.int .i64 0)).setCell ⟨(w.heap.size + 1 + 1), 4, none⟩ (.int .i64 0)).setCell ⟨(w.heap.size + 1 + 1), 5, none⟩ (.int .i64 0)) (w.heap.size + 1 + 1 + 1) 0 (.int .i64 0) 1 (.int .i64 0) 2 (.int .i64 0) 3 (.int .i64 0) 4 (.bool false) 5 (.int .i64 0)
            replace KS := oB hs KS (by omega)
            replace KI := oB hs KI (by omega)
            replace KA := oB hs KA (by omega)
            replace KE := Lib.hid (blk_set (blk_set (blk_set (blk_set (blk_set (blk_set KE.out (j := 0) (by simp) (.int .i64 0)) (j := 1) (by simp) (.int .i64 0)) (j := 2) (by simp) (.int .i64 0)) (j := 3) (by simp) (.int .i64 0)) (j := 4) (by simp) (.bool false)) (j := 5) (by simp) (.int .i64 0))
            replace KC := oB hs KC (by omega)
            replace HB := oH hs HB (by omega)
            clear hs
            generalize (((((((((((w1.setCell ⟨(w.heap.size + 1 + 1), 0, none⟩ (.int .i64 0)).setCell ⟨(w.heap.size + 1 + 1), 1, none⟩ (.int .i64 0)).setCell ⟨(w.heap.size + 1 + 1), 2, none⟩ (.int .i64 0)).setCell ⟨(w.heap.size + 1 + 1), 3, none⟩ (.int .i64 0)).setCell ⟨(w.heap.size + 1 + 1), 4, none⟩ (.int .i64 0)).setCell ⟨(w.heap.size + 1 + 1), 5, none⟩ (.int .i64 0)).setCell ⟨(w.heap.size + 1 + 1 + 1), 0, none⟩ (.int .i64 0)).setCell ⟨(w.heap.size + 1 + 1 + 1), 1, none⟩ (.int .i64 0)).setCell ⟨(w.heap.size + 1 + 1 + 1), 2, none⟩ (.int .i64 0)).setCell ⟨(w.heap.size + 1 + 1 + 1), 3, none⟩ (.int .i64 0)).setCell ⟨(w.heap.size + 1 + 1 + 1), 4, none⟩ (.bool false)).setCell ⟨(w.heap.size + 1 + 1 + 1), 5, none⟩ (.int .i64 0) = w3 at *
            simp only [List.set] at KE
            obtain ⟨yA_0, yA_1, yA_2, yA_3, yA_4, yA_5, yA_z⟩ := blk6 KA
            obtain ⟨yE_0, yE_1, yE_2, yE_3, yE_4, yE_5, yE_z⟩ := blk6 KE
            refine bodyPost_ret (v := .tuple #[.agg #[.int .i64 0, .int .i64 0, .int .i64 0, .int .i64 0, .int .i64 0, .int .i64 0], .agg #[.int .i64 0, .int .i64 0, .int .i64 0, .int .i64 0, .bool false, .int .i64 0], .int .i64 2]) (by simp [results, Tryz.results17, go_sem, yA_0, yA_1, yA_2, yA_3, yA_4, yA_5, yE_0, yE_1, yE_2, yE_3, yE_4, yE_5]) rfl ⟨by rw [EV.out], HB.out⟩
          · have g3 : decide (2000000 < rq) = false := by simpa using h3
            rw [if_neg (by omega)] at EV0
            by_cases h4 : 8 < n
            · have g4 : decide (8 < n) = true := by simpa using h4
              have g5 : decide ((8 : Int) < n) = true := by simp; omega
              have EV := Lib.hid (EV0.trans (if_pos h4))
              clear EV0 h0 h1 h2 h3 h4 CO0 CB he c0 c1
              obtain ⟨cx, cy, x, y⟩ := b
              simp only at CK
              obtain ⟨KS, KI, KA, KE, KC, HB⟩ := ent5 w #[.int .i64 cx, .int .i64 cy, .int .i64 x, .int .i64 y, .int .i64 t, .int .i64 m] 27 #[.int .i64 tick, .slice p n cap, .int .i64 ve, .int .i64 vn, .int .i64 dr, .int .i64 rq] 38 #[.int .i64 0, .int .i64 0, .int .i64 0, .int .i64 0, .int .i64 0, .int .i64 0] 27 #[.int .i64 0, .int .i64 0, .int .i64 0, .int .i64 0, .bool false, .int .i64 0] 41 #[.int .i64 0, .int .i64 0, .int .i64 0, .int .i64 0] 25
              go_enter Tryz.func17, Tryz.ntmps17
              go_wp2_with fail
              generalize ((((w.alloc (.cells #[.int .i64 cx, .int .i64 cy, .int .i64 x, .int .i64 y, .int .i64 t, .int .i64 m] 27)).alloc (.cells #[.int .i64 tick, .slice p n cap, .int .i64 ve, .int .i64 vn, .int .i64 dr, .int .i64 rq] 38)).alloc (.cells #[.int .i64 0, .int .i64 0, .int .i64 0, .int .i64 0, .int .i64 0, .int .i64 0] 27)).alloc (.cells #[.int .i64 0, .int .i64 0, .int .i64 0, .int .i64 0, .bool false, .int .i64 0] 41)).alloc (.cells #[.int .i64 0, .int .i64 0, .int .i64 0, .int .i64 0] 25) = w0 at *
              refine (CK.out _).mono ?_
              rintro e1 w1 ⟨rfl, hb1⟩
              replace HB := hT HB hb1
              replace KS := hK KS hb1
              replace KI := hK KI hb1
              replace KA := hK KA hb1
              replace KE := hK KE hb1
              replace KC := hK KC hb1
              clear hb1
              obtain ⟨yS_0, yS_1, yS_2, yS_3, yS_4, yS_5, yS_z⟩ := blk6 KS
              obtain ⟨yI_0, yI_1, yI_2, yI_3, yI_4, yI_5, yI_z⟩ := blk6 KI
              obtain ⟨yA_0, yA_1, yA_2, yA_3, yA_4, yA_5, yA_z, yA_f0, yA_f1, yA_f2, yA_f3, yA_f4, yA_f5⟩ := blf6 KA
              obtain ⟨yE_0, yE_1, yE_2, yE_3, yE_4, yE_5, yE_z, yE_f0, yE_f1, yE_f2, yE_f3, yE_f4, yE_f5⟩ := blf6 KE
              go_wp2
              have hs := st6 w1 (w.heap.size + 1 + 1) 0 (.int .i64 0) 1 (.int .i64 0) 2 (.int .i64 0) 3 (.int .i64 0) 4 (.int .i64 0) 5 (.int .i64 0)
              replace KS := oB hs KS (by omega)
              replace KI := oB hs KI (by omega)
              replace KA := Lib.hid (blk_set (blk_set (blk_set (blk_set (blk_set (blk_set KA.out (j := 0) (by simp) (.int .i64 0)) (j := 1) (by simp) (.int .i64 0)) (j := 2) (by simp) (.int .i64 0)) (j := 3) (by simp) (.int .i64 0)) (j := 4) (by simp) (.int .i64 0)) (j := 5) (by simp) (.int .i64 0))
              replace KE := oB hs KE (by omega)
              replace KC := oB hs KC (by omega)
              replace HB := oH hs HB (by omega)
              clear hs
              clear yS_0 yS_1 yS_2 yS_3 yS_4 yS_5 yS_z yI_0 yI_1 yI_2 yI_3 yI_4 yI_5 yI_z yA_0 yA_1 yA_2 yA_3 yA_4 yA_5 yA_z yA_f0 yA_f1 yA_f2 yA_f3 yA_f4 yA_f5 yE_0 yE_1 yE_2 yE_3 yE_4 yE_5 yE_z yE_f0 yE_f1 yE_f2 yE_f3 yE_f4 yE_f5
              simp only [List.set] at KA
              have hs := st6 ((((((w1.setCell ⟨(w.heap.size + 1 + 1), 0, none⟩ (.int .i64 0)).setCell ⟨(w.heap.size + 1 + 1), 1, none⟩ (.int .i64 0)).setCell ⟨(w.heap.size + 1 + 1), 2, none⟩ (.int .i64 0)).setCell ⟨(w.heap.size + 1 + 1), 3, none⟩ (.int .i64 0)).setCell ⟨(w.heap.size + 1 + 1), 4, none⟩ (.int .i64 0)).setCell ⟨(w.heap.size + 1 + 1), 5, none⟩ (.int .i64 0)) (w.heap.size + 1 + 1 + 1) 0 (.int .i64 0) 1 (.int .i64 0) 2 (.int .i64 0) 3 (.int .i64 0) 4 (.bool false) 5 (.int .i64 0)
              replace KS := oB hs KS (by omega)
              replace KI := oB hs KI (by omega)
              replace KA := oB hs KA (by omega)
              replace KE := Lib.hid (blk_set (blk_set (blk_set (blk_set (blk_set (blk_set KE.out (j := 0) (by simp) (.int .i64 0)) (j := 1) (by simp) (.int .i64 0)) (j := 2) (by simp) (.int .i64 0)) (j := 3) (by simp) (.int .i64 0)) (j := 4) (by simp) (.bool false)) (j := 5) (by simp) (.int .i64 0))
              replace KC := oB hs KC (by omega)
              replace HB := oH hs HB (by omega)
              clear hs
              generalize (((((((((((w1.setCell ⟨(w.heap.size + 1 + 1), 0, none⟩ (.int .i64 0)).setCell ⟨(w.heap.size + 1 + 1), 1, none⟩ (.int .i64 0)).setCell ⟨(w.heap.size + 1 + 1), 2, none⟩ (.int .i64 0)).setCell ⟨(w.heap.size + 1 + 1), 3, none⟩ (.int .i64 0)).setCell ⟨(w.heap.size + 1 + 1), 4, none⟩ (.int .i64 0)).setCell ⟨(w.heap.size + 1 + 1), 5, none⟩ (.int .i64 0)).setCell ⟨(w.heap.size + 1 + 1 + 1), 0, none⟩ (.int .i64 0)).setCell ⟨(w.heap.size + 1 + 1 + 1), 1, none⟩ (.int .i64 0)).setCell ⟨(w.heap.size + 1 + 1 + 1), 2, none⟩ (.int .i64 0)).setCell ⟨(w.heap.size + 1 + 1 + 1), 3, none⟩ (.int .i64 0)).setCell ⟨(w.heap.size + 1 + 1 + 1), 4, none⟩ (.bool false)).setCell ⟨(w.heap.size + 1 + 1 + 1), 5, none⟩ (.int .i64 0) = w3 at *
              simp only [List.set] at KE
              obtain ⟨yA_0, yA_1, yA_2, yA_3, yA_4, yA_5, yA_z⟩ := blk6 KA
              obtain ⟨yE_0, yE_1, yE_2, yE_3, yE_4, yE_5, yE_z⟩ := blk6 KE
              refine bodyPost_ret (v := .tuple #[.agg #[.int .i64 0, .int .i64 0, .int .i64 0, .int .i64 0, .int .i64 0, .int .i64 0], .agg #[.int .i64 0, .int .i64 0, .int .i64 0, .int .i64 0, .bool false, .int .i64 0], .int .i64 3]) (by simp [results, Tryz.results17, go_sem, yA_0, yA_1, yA_2, yA_3, yA_4, yA_5, yE_0, yE_1, yE_2, yE_3, yE_4, yE_5]) rfl ⟨by rw [EV.out], HB.out⟩
            · have g4 : decide (8 < n) = false := by simpa using h4
              have g5 : decide ((8 : Int) < n) = false := by simp; omega
              rw [if_neg h4] at EV0
              have sw : IntKind.i64.wrap (tick - t) = tick - t := IntWalk.i64_in _ (by omega)
              rw [EV0] at he
              have CB := CB he
              obtain ⟨r, hr⟩ : ∃ z, cstF b ve vn dr (tick - t) = z := ⟨_, rfl⟩
              rw [hr] at EV0 CO0 CB he
              clear hr h0 h1 h2 h3 h4 c0 c1
              obtain ⟨r, e⟩ := r
              simp only at EV0 CB he CO0
              subst CB
              have EV := Lib.hid EV0
              have ge : (e != 0) = true := by simpa using he
              have ge' : (e == 0) = false := by simpa using he
              unfold bx0 at CO0
              simp only at CO0
              clear EV0 he
              obtain ⟨cx, cy, x, y⟩ := b
              simp only at CK CO0
              have CO := Lib.hid CO0
              clear CO0
              obtain ⟨KS, KI, KA, KE, KC, HB⟩ := ent5 w #[.int .i64 cx, .int .i64 cy, .int .i64 x, .int .i64 y, .int .i64 t, .int .i64 m] 27 #[.int .i64 tick, .slice p n cap, .int .i64 ve, .int .i64 vn, .int .i64 dr, .int .i64 rq] 38 #[.int .i64 0, .int .i64 0, .int .i64 0, .int .i64 0, .int .i64 0, .int .i64 0] 27 #[.int .i64 0, .int .i64 0, .int .i64 0, .int .i64 0, .bool false, .int .i64 0] 41 #[.int .i64 0, .int .i64 0, .int .i64 0, .int .i64 0] 25
              go_enter Tryz.func17, Tryz.ntmps17
              go_wp2_with fail
              generalize ((((w.alloc (.cells #[.int .i64 cx, .int .i64 cy, .int .i64 x, .int .i64 y, .int .i64 t, .int .i64 m] 27)).alloc (.cells #[.int .i64 tick, .slice p n cap, .int .i64 ve, .int .i64 vn, .int .i64 dr, .int .i64 rq] 38)).alloc (.cells #[.int .i64 0, .int .i64 0, .int .i64 0, .int .i64 0, .int .i64 0, .int .i64 0] 27)).alloc (.cells #[.int .i64 0, .int .i64 0, .int .i64 0, .int .i64 0, .bool false, .int .i64 0] 41)).alloc (.cells #[.int .i64 0, .int .i64 0, .int .i64 0, .int .i64 0] 25) = w0 at *
              refine (CK.out _).mono ?_
              rintro e1 w1 ⟨rfl, hb1⟩
              replace HB := hT HB hb1
              replace KS := hK KS hb1
              replace KI := hK KI hb1
              replace KA := hK KA hb1
              replace KE := hK KE hb1
              replace KC := hK KC hb1
              clear hb1
              obtain ⟨yS_0, yS_1, yS_2, yS_3, yS_4, yS_5, yS_z⟩ := blk6 KS
              obtain ⟨yI_0, yI_1, yI_2, yI_3, yI_4, yI_5, yI_z⟩ := blk6 KI
              go_wp2_with fail
              refine (CO.out _).mono ?_
              rintro e2 w2 ⟨rfl, hb2⟩
              replace HB := hT HB hb2
              replace KS := hK KS hb2
              replace KI := hK KI hb2
              replace KA := hK KA hb2
              replace KE := hK KE hb2
              replace KC := hK KC hb2
              clear yS_0 yS_1 yS_2 yS_3 yS_4 yS_5 yS_z yI_0 yI_1 yI_2 yI_3 yI_4 yI_5 yI_z
              clear hb2
              obtain ⟨yA_0, yA_1, yA_2, yA_3, yA_4, yA_5, yA_z, yA_f0, yA_f1, yA_f2, yA_f3, yA_f4, yA_f5⟩ := blf6 KA
              obtain ⟨yE_0, yE_1, yE_2, yE_3, yE_4, yE_5, yE_z, yE_f0, yE_f1, yE_f2, yE_f3, yE_f4, yE_f5⟩ := blf6 KE
              obtain ⟨yC_0, yC_1, yC_2, yC_3, yC_z, yC_f0, yC_f1, yC_f2, yC_f3⟩ := blf4 KC
              go_wp2
              have hs := st4 w2 (w.heap.size + 1 + 1 + 1 + 1) 0 (.int .i64 0) 1 (.int .i64 0) 2 (.int .i64 0) 3 (.int .i64 0)
              replace KS := oB hs KS (by omega)
              replace KI := oB hs KI (by omega)
              replace KA := oB hs KA (by omega)
              replace KE := oB hs KE (by omega)
              replace KC := Lib.hid (blk_set (blk_set (blk_set (blk_set KC.out (j := 0) (by simp) (.int .i64 0)) (j := 1) (by simp) (.int .i64 0)) (j := 2) (by simp) (.int .i64 0)) (j := 3) (by simp) (.int .i64 0))
              replace HB := oH hs HB (by omega)
              clear hs
              clear yA_0 yA_1 yA_2 yA_3 yA_4 yA_5 yA_z yA_f0 yA_f1 yA_f2 yA_f3 yA_f4 yA_f5 yE_0 yE_1 yE_2 yE_3 yE_4 yE_5 yE_z yE_f0 yE_f1 yE_f2 yE_f3 yE_f4 yE_f5 yC_0 yC_1 yC_2 yC_3 yC_z yC_f0 yC_f1 yC_f2 yC_f3
              simp only [List.set] at KC
              have hs := st6 ((((w2.setCell ⟨(w.heap.size + 1 + 1 + 1 + 1), 0, none⟩ (.int .i64 0)).setCell ⟨(w.heap.size + 1 + 1 + 1 + 1), 1, none⟩ (.int .i64 0)).setCell ⟨(w.heap.size + 1 + 1 + 1 + 1), 2, none⟩ (.int .i64 0)).setCell ⟨(w.heap.size + 1 + 1 + 1 + 1), 3, none⟩ (.int .i64 0)) (w.heap.size + 1 + 1) 0 (.int .i64 0) 1 (.int .i64 0) 2 (.int .i64 0) 3 (.int .i64 0) 4 (.int .i64 0) 5 (.int .i64 0)
              replace KS := oB hs KS (by omega)
              replace KI := oB hs KI (by omega)
              replace KA := Lib.hid (blk_set (blk_set (blk_set (blk_set (blk_set (blk_set KA.out (j := 0) (by simp) (.int .i64 0)) (j := 1) (by simp) (.int .i64 0)) (j := 2) (by simp) (.int .i64 0)) (j := 3) (by simp) (.int .i64 0)) (j := 4) (by simp) (.int .i64 0)) (j := 5) (by simp) (.int .i64 0))
              replace KE := oB hs KE (by omega)
              replace KC := oB hs KC (by omega)
              replace HB := oH hs HB (by omega)
              clear hs
              simp only [List.set] at KA
              have hs := st6 ((((((((((w2.setCell ⟨(w.heap.size + 1 + 1 + 1 + 1), 0, none⟩ (.int .i64 0)).setCell ⟨(w.heap.size + 1 + 1 + 1 + 1), 1, none⟩ (.int .i64 0)).setCell ⟨(w.heap.size + 1 + 1 + 1 + 1), 2, none⟩ (.int .i64 0)).setCell ⟨(w.heap.size + 1 + 1 + 1 + 1), 3, none⟩ (.int .i64 0)).setCell ⟨(w.heap.size + 1 + 1), 0, none⟩ (.int .i64 0)).setCell ⟨(w.heap.size + 1 + 1), 1, none⟩ (.int .i64 0)).setCell ⟨(w.heap.size + 1 + 1), 2, none⟩ (.int .i64 0)).setCell ⟨(w.heap.size + 1 + 1), 3, none⟩ (.int .i64 0)).setCell ⟨(w.heap.size + 1 + 1), 4, none⟩ (.int .i64 0)).setCell ⟨(w.heap.size + 1 + 1), 5, none⟩ (.int .i64 0)) (w.heap.size + 1 + 1 + 1) 0 (.int .i64 0) 1 (.int .i64 0) 2 (.int .i64 0) 3 (.int .i64 0) 4 (.bool false) 5 (.int .i64 0)
              replace KS := oB hs KS (by omega)
              replace KI := oB hs KI (by omega)
              replace KA := oB hs KA (by omega)
              replace KE := Lib.hid (blk_set (blk_set (blk_set (blk_set (blk_set (blk_set KE.out (j := 0) (by simp) (.int .i64 0)) (j := 1) (by simp) (.int .i64 0)) (j := 2) (by simp) (.int .i64 0)) (j := 3) (by simp) (.int .i64 0)) (j := 4) (by simp) (.bool false)) (j := 5) (by simp) (.int .i64 0))
              replace KC := oB hs KC (by omega)
              replace HB := oH hs HB (by omega)
              clear hs
              generalize (((((((((((((((w2.setCell ⟨(w.heap.size + 1 + 1 + 1 + 1), 0, none⟩ (.int .i64 0)).setCell ⟨(w.heap.size + 1 + 1 + 1 + 1), 1, none⟩ (.int .i64 0)).setCell ⟨(w.heap.size + 1 + 1 + 1 + 1), 2, none⟩ (.int .i64 0)).setCell ⟨(w.heap.size + 1 + 1 + 1 + 1), 3, none⟩ (.int .i64 0)).setCell ⟨(w.heap.size + 1 + 1), 0, none⟩ (.int .i64 0)).setCell ⟨(w.heap.size + 1 + 1), 1, none⟩ (.int .i64 0)).setCell ⟨(w.heap.size + 1 + 1), 2, none⟩ (.int .i64 0)).setCell ⟨(w.heap.size + 1 + 1), 3, none⟩ (.int .i64 0)).setCell ⟨(w.heap.size + 1 + 1), 4, none⟩ (.int .i64 0)).setCell ⟨(w.heap.size + 1 + 1), 5, none⟩ (.int .i64 0)).setCell ⟨(w.heap.size + 1 + 1 + 1), 0, none⟩ (.int .i64 0)).setCell ⟨(w.heap.size + 1 + 1 + 1), 1, none⟩ (.int .i64 0)).setCell ⟨(w.heap.size + 1 + 1 + 1), 2, none⟩ (.int .i64 0)).setCell ⟨(w.heap.size + 1 + 1 + 1), 3, none⟩ (.int .i64 0)).setCell ⟨(w.heap.size + 1 + 1 + 1), 4, none⟩ (.bool false)).setCell ⟨(w.heap.size + 1 + 1 + 1), 5, none⟩ (.int .i64 0) = w5 at *
              simp only [List.set] at KE
              obtain ⟨yA_0, yA_1, yA_2, yA_3, yA_4, yA_5, yA_z⟩ := blk6 KA
              obtain ⟨yE_0, yE_1, yE_2, yE_3, yE_4, yE_5, yE_z⟩ := blk6 KE
              refine bodyPost_ret (v := .tuple #[.agg #[.int .i64 0, .int .i64 0, .int .i64 0, .int .i64 0, .int .i64 0, .int .i64 0], .agg #[.int .i64 0, .int .i64 0, .int .i64 0, .int .i64 0, .bool false, .int .i64 0], .int .i64 e]) (by simp [results, Tryz.results17, go_sem, yA_0, yA_1, yA_2, yA_3, yA_4, yA_5, yE_0, yE_1, yE_2, yE_3, yE_4, yE_5]) rfl ⟨by rw [EV.out], HB.out⟩
  · rw [if_pos hc] at EV0
    have EV := Lib.hid EV0
    have ge : (chkS b t m != 0) = true := by simpa using hc
    have ge' : (chkS b t m == 0) = false := by simpa using hc
    have CK := Lib.hid CK0
    clear EV0 CK0 hc CO0 CB he CS
    generalize chkS b t m = e at *
    obtain ⟨cx, cy, x, y⟩ := b
    simp only at CK
    obtain ⟨KS, KI, KA, KE, KC, HB⟩ := ent5 w #[.int .i64 cx, .int .i64 cy, .int .i64 x, .int .i64 y, .int .i64 t, .int .i64 m] 27 #[.int .i64 tick, .slice p n cap, .int .i64 ve, .int .i64 vn, .int .i64 dr, .int .i64 rq] 38 #[.int .i64 0, .int .i64 0, .int .i64 0, .int .i64 0, .int .i64 0, .int .i64 0] 27 #[.int .i64 0, .int .i64 0, .int .i64 0, .int .i64 0, .bool false, .int .i64 0] 41 #[.int .i64 0, .int .i64 0, .int .i64 0, .int .i64 0] 25
    go_enter Tryz.func17, Tryz.ntmps17
    go_wp2_with fail
    generalize ((((w.alloc (.cells #[.int .i64 cx, .int .i64 cy, .int .i64 x, .int .i64 y, .int .i64 t, .int .i64 m] 27)).alloc (.cells #[.int .i64 tick, .slice p n cap, .int .i64 ve, .int .i64 vn, .int .i64 dr, .int .i64 rq] 38)).alloc (.cells #[.int .i64 0, .int .i64 0, .int .i64 0, .int .i64 0, .int .i64 0, .int .i64 0] 27)).alloc (.cells #[.int .i64 0, .int .i64 0, .int .i64 0, .int .i64 0, .bool false, .int .i64 0] 41)).alloc (.cells #[.int .i64 0, .int .i64 0, .int .i64 0, .int .i64 0] 25) = w0 at *
    refine (CK.out _).mono ?_
    rintro e1 w1 ⟨rfl, hb1⟩
    replace HB := hT HB hb1
    replace KS := hK KS hb1
    replace KI := hK KI hb1
    replace KA := hK KA hb1
    replace KE := hK KE hb1
    replace KC := hK KC hb1
    clear hb1
    obtain ⟨yA_0, yA_1, yA_2, yA_3, yA_4, yA_5, yA_z, yA_f0, yA_f1, yA_f2, yA_f3, yA_f4, yA_f5⟩ := blf6 KA
    obtain ⟨yE_0, yE_1, yE_2, yE_3, yE_4, yE_5, yE_z, yE_f0, yE_f1, yE_f2, yE_f3, yE_f4, yE_f5⟩ := blf6 KE
    go_wp2
    have hs := st6 w1 (w.heap.size + 1 + 1) 0 (.int .i64 0) 1 (.int .i64 0) 2 (.int .i64 0) 3 (.int .i64 0) 4 (.int .i64 0) 5 (.int .i64 0)
    replace KS := oB hs KS (by omega)
    replace KI := oB hs KI (by omega)
    replace KA := Lib.hid (blk_set (blk_set (blk_set (blk_set (blk_set (blk_set KA.out (j := 0) (by simp) (.int .i64 0)) (j := 1) (by simp) (.int .i64 0)) (j := 2) (by simp) (.int .i64 0)) (j := 3) (by simp) (.int .i64 0)) (j := 4) (by simp) (.int .i64 0)) (j := 5) (by simp) (.int .i64 0))
    replace KE := oB hs KE (by omega)
    replace KC := oB hs KC (by omega)
    replace HB := oH hs HB (by omega)
    clear hs
    clear yA_0 yA_1 yA_2 yA_3 yA_4 yA_5 yA_z yA_f0 yA_f1 yA_f2 yA_f3 yA_f4 yA_f5 yE_0 yE_1 yE_2 yE_3 yE_4 yE_5 yE_z yE_f0 yE_f1 yE_f2 yE_f3 yE_f4 yE_f5
    simp only [List.set] at KA
    have hs := st6 ((((((w1.setCell ⟨(w.heap.size + 1 + 1), 0, none⟩ (.int .i64 0)).setCell ⟨(w.heap.size + 1 + 1), 1, none⟩ (.int .i64 0)).setCell ⟨(w.heap.size + 1 + 1), 2, none⟩ (.int .i64 0)).setCell ⟨(w.heap.size + 1 + 1), 3, none⟩ (.int .i64 0)).setCell ⟨(w.heap.size + 1 + 1), 4, none⟩ (.int .i64 0)).setCell ⟨(w.heap.size + 1 + 1), 5, none⟩ (.int .i64 0)) (w.heap.size + 1 + 1 + 1) 0 (.int .i64 0) 1 (.int .i64 0) 2 (.int .i64 0) 3 (.int .i64 0) 4 (.bool false) 5 (.int .i64 0)
    replace KS := oB hs KS (by omega)
    replace KI := oB hs KI (by omega)
    replace KA := oB hs KA (by omega)
    replace KE := Lib.hid (blk_set (blk_set (blk_set (blk_set (blk_set (blk_set KE.out (j := 0) (by simp) (.int .i64 0)) (j := 1) (by simp) (.int .i64 0)) (j := 2) (by simp) (.int .i64 0)) (j := 3) (by simp) (.int .i64 0)) (j := 4) (by simp) (.bool false)) (j := 5) (by simp) (.int .i64 0))
    replace KC := oB hs KC (by omega)
    replace HB := oH hs HB (by omega)
    clear hs
    generalize (((((((((((w1.setCell ⟨(w.heap.size + 1 + 1), 0, none⟩ (.int .i64 0)).setCell ⟨(w.heap.size + 1 + 1), 1, none⟩ (.int .i64 0)).setCell ⟨(w.heap.size + 1 + 1), 2, none⟩ (.int .i64 0)).setCell ⟨(w.heap.size + 1 + 1), 3, none⟩ (.int .i64 0)).setCell ⟨(w.heap.size + 1 + 1), 4, none⟩ (.int .i64 0)).setCell ⟨(w.heap.size + 1 + 1), 5, none⟩ (.int .i64 0)).setCell ⟨(w.heap.size + 1 + 1 + 1), 0, none⟩ (.int .i64 0)).setCell ⟨(w.heap.size + 1 + 1 + 1), 1, none⟩ (.int .i64 0)).setCell ⟨(w.heap.size + 1 + 1 + 1), 2, none⟩ (.int .i64 0)).setCell ⟨(w.heap.size + 1 + 1 + 1), 3, none⟩ (.int .i64 0)).setCell ⟨(w.heap.size + 1 + 1 + 1), 4, none⟩ (.bool false)).setCell ⟨(w.heap.size + 1 + 1 + 1), 5, none⟩ (.int .i64 0) = w3 at *
    simp only [List.set] at KE
    obtain ⟨yA_0, yA_1, yA_2, yA_3, yA_4, yA_5, yA_z⟩ := blk6 KA
    obtain ⟨yE_0, yE_1, yE_2, yE_3, yE_4, yE_5, yE_z⟩ := blk6 KE
    refine bodyPost_ret (v := .tuple #[.agg #[.int .i64 0, .int .i64 0, .int .i64 0, .int .i64 0, .int .i64 0, .int .i64 0], .agg #[.int .i64 0, .int .i64 0, .int .i64 0, .int .i64 0, .bool false, .int .i64 0], .int .i64 e]) (by simp [results, Tryz.results17, go_sem, yA_0, yA_1, yA_2, yA_3, yA_4, yA_5, yE_0, yE_1, yE_2, yE_3, yE_4, yE_5]) rfl ⟨by rw [EV.out], HB.out⟩
end Go.Proofs.YtajmjkliblippaaGreatDoor
namespace Go.Proofs.YtajmjkliblippaaGreatDoor
open Go Go.Sort Go.RowKit

section
variable {P : Program} {ops : Array Oper} {md : Region.Mode} {C : World → Prop}

/-- a value, and the very world -/
def calmUpon (w : World) (v : Value) : Result Next → Prop
  | .ok (.value u) w' => w' = w ∧ u = v
  | _ => False
/-- in this state, in every world of the class, the operation yields v and leaves the world as it is -/
def Calm (P : Program) (ops : Array Oper) (C : World → Prop) (o : Oper) (v : Value) (a : Act) : Prop :=
  (Region.wanted o (yielded ops a.tmps) = true ∧ ∀ w, C w → calmUpon w v ((execOp a.eval o).run P w)) ∨ (Region.wanted o (yielded ops a.tmps) = false ∧ v = undef)
/-- the walk of such operations, in the order of a list -/
def wpCalm (P : Program) (ops : Array Oper) (C : World → Prop) (Q : Act → Prop) : List Oper → Act → Prop
  | [], a => Q a
  | o :: rest, a => if Region.wanted o (yielded ops a.tmps) then ∃ v, (∀ w, C w → calmUpon w v ((execOp a.eval o).run P w)) ∧ wpCalm P ops C Q rest (a.put o.dst v) else wpCalm P ops C Q rest (a.put o.dst undef)
theorem wpCalm_nil {Q : Act → Prop} {a : Act} (h : Q a) : wpCalm P ops C Q [] a := h
theorem wpCalm_step {Q : Act → Prop} {a : Act} {o : Oper} {rest : List Oper}
    (h : ∀ K : Act → Prop, (∀ a, wpCalm P ops C Q rest a → K a) → if Region.wanted o (yielded ops a.tmps) then ∃ v, (∀ w, C w → calmUpon w v ((execOp a.eval o).run P w)) ∧ K (a.put o.dst v) else K (a.put o.dst undef)) : wpCalm P ops C Q (o :: rest) a :=
  h _ (fun _ h => h)
theorem calm_intro {w : World} {u : Value} : calmUpon w u (.ok (.value u) w) := ⟨rfl, rfl⟩

theorem Calm.of_same {o : Oper} {v : Value} {a a' : Act} (hy : Calm P ops C o v a) (he : execOp a'.eval o = execOp a.eval o)
    (hw : Region.wanted o (yielded ops a'.tmps) = Region.wanted o (yielded ops a.tmps)) : Calm P ops C o v a' := by
  unfold Calm at *
  rw [he, hw]
  exact hy
theorem Calm.wpOp {Q : Exit → Act → World → Prop} {i : Nat} {o : Oper} {v : Value} {a : Act} {w : World} {K : Act → World → Prop} (hi : ops[i]? = some o) (hy : Calm P ops C o v a) (hC : C w) (h : K (a.put o.dst v) w) : wpOp P ops Q i K a w := by
  unfold Go.wpOp
  simp only [hi]
  rcases hy with ⟨hw, hv⟩ | ⟨hw, rfl⟩
  · simp only [hw, if_true]
    refine .inl ?_
    have h3 := hv w hC
    unfold Oper.wp
    generalize (execOp a.eval o).run P w = r at *
    cases r with
    | ok n w' =>
      cases n <;> simp only [calmUpon] at h3
      case value u =>
        obtain ⟨e1, e2⟩ := h3
        subst e1 e2
        exact h
    | halt x w' => simp only [calmUpon] at h3
  · simp only [hw, Bool.false_eq_true, if_false]
    exact h

/-- a way out that is the normal one alone -/
def OnlyNormal (Q : Exit → Act → World → Prop) : Prop := ∀ e a w, Q e a w → e = .normal
theorem wpOp_put {Q : Exit → Act → World → Prop} (hQ : OnlyNormal Q) {j : Nat} {oi oj : Oper} {v : Value} (hj : ops[j]? = some oj) (hap : oi.apart ops oj = true)
    (hsi : ∀ cs b, oi.op ≠ .select cs b) (hsj : ∀ cs b, oj.op ≠ .select cs b) {K : Act → World → Prop} {a : Act} {w : World}
    (hy : Calm P ops C oi v a) (h : wpOp P ops Q j K (a.put oi.dst v) w) : wpOp P ops Q j (fun a' w' => Calm P ops C oi v a' ∧ K (a'.put oi.dst v) w') a w := by
  obtain ⟨h1, h2, h3⟩ := Oper.apart_spec hap
  have keep : ∀ (a : Act), Calm P ops C oi v a → ∀ u, Calm P ops C oi v (a.put oj.dst u) := fun a hy u =>
    hy.of_same (execOp_put oi hsi a oj.dst u h3) (wanted_put oi a oj.dst u h3)
  unfold wpOp at *
  simp only [hj] at *
  rw [wanted_put oj a oi.dst v h1] at h
  split
  · rename_i hw
    simp only [hw, if_true] at h
    rcases h with h | ⟨_, a9, w9, h9⟩
    · refine .inl ?_
      unfold Oper.wp at *
      rw [execOp_put oj hsj a oi.dst v h1] at h
      generalize (execOp a.eval oj).run P w = r at *
      cases r with
      | ok n w' =>
        cases n <;> simp only [Oper.upon] at h ⊢
        case value u => exact ⟨keep a hy u, by rw [← Act.put_comm a v u h2]; exact h⟩
        case skip => exact ⟨keep a hy _, by rw [← Act.put_comm a v undef h2]; exact h⟩
        case defer d =>
          have e3 : ({ a.put oi.dst v with defers := d :: (a.put oi.dst v).defers } : Act) = ({ a with defers := d :: a.defers } : Act).put oi.dst v := by cases oi.dst <;> rfl
          have e4 : ({ a with defers := d :: a.defers } : Act).put oj.dst undef = { a.put oj.dst undef with defers := d :: a.defers } := by cases oj.dst <;> rfl
          rw [e3] at h
          refine ⟨?_, by rw [← Act.put_comm _ v undef h2]; exact h⟩
          rw [e4]
          exact (keep a hy undef).of_same rfl rfl
        case enter f args =>
          refine Calls.mono h (fun e w'' he => ?_)
          cases e with
          | returned u => exact ⟨keep a hy u, by rw [← Act.put_comm a v u h2]; exact he⟩
          | panicked chain => exact absurd (hQ _ _ _ he) (by simp)
          | outgrown => obtain ⟨_, _, hx⟩ := he; exact absurd (hQ _ _ _ hx) (by simp)
        case row rw args => exact Rows.mono h (fun u w'' he => ⟨keep a hy u, by rw [← Act.put_comm a v u h2]; exact he⟩)
      | halt x w' =>
        cases x <;> simp only [Oper.upon] at h ⊢
        exact absurd (hQ _ _ _ h) (by simp)
    · exact absurd (hQ _ _ _ h9) (by simp)
  · rename_i hw
    simp only [hw] at h
    exact ⟨keep a hy _, by rw [← Act.put_comm a v undef h2]; exact h⟩

/-- whatever order is picked from here on, the class kept at every step -/
def wpAnyC (P : Program) (md : Region.Mode) (ops : Array Oper) (Q : Exit → Act → World → Prop) (C : World → Prop) : Nat → Array Bool → Act → World → Prop
  | 0, listed, a, w => C w ∧ Region.ready md ops listed = [] ∧ Q .normal a w
  | f + 1, listed, a, w => C w ∧ (Region.ready md ops listed = [] → Q .normal a w) ∧ ∀ i ∈ Region.ready md ops listed, wpOp P ops Q i (wpAnyC P md ops Q C f (listed.setIfInBounds i true)) a w
theorem wpAnyC_in {Q : Exit → Act → World → Prop} {f : Nat} {listed : Array Bool} {a : Act} {w : World} (h : wpAnyC P md ops Q C f listed a w) : C w := by
  cases f with
  | zero => exact h.1
  | succ f => exact h.1
theorem wpAny_of_C {Q : Exit → Act → World → Prop} : ∀ (f : Nat) (listed : Array Bool) (a : Act) (w : World), wpAnyC P md ops Q C f listed a w → wpAny P md ops Q f listed a w
  | 0, _, _, _, h => h.2
  | f + 1, _, _, _, h => ⟨h.2.1, fun i hi => wpOp_mono (fun a w h => wpAny_of_C f _ a w h) (h.2.2 i hi)⟩

theorem wpAnyC_first {Q : Exit → Act → World → Prop} (hQ : OnlyNormal Q) {i : Nat} {oi : Oper} {v : Value} (hi : ops[i]? = some oi) (hsel : ∀ (j : Nat) (o : Oper) cs b, ops[j]? = some o → o.op ≠ .select cs b) :
    ∀ (f : Nat) (listed : Array Bool) (a : Act) (w : World),
      (∀ j oj, ops[j]? = some oj → j ≠ i → listed.getD j true = false → (∀ e ∈ oj.after, Region.binds md e = true → e.on ≠ i) → oi.apart ops oj = true) →
      i ∈ Region.ready md ops listed → Calm P ops C oi v a →
      wpAnyC P md ops Q C f (listed.setIfInBounds i true) (a.put oi.dst v) w → wpAnyC P md ops Q C (f + 1) listed a w := by
  intro f
  induction f with
  | zero =>
    intro listed a w _ hr hy H
    refine ⟨H.1, fun h => (by rw [h] at hr; cases hr), fun j hj => ?_⟩
    by_cases hji : j = i
    · subst hji; exact hy.wpOp hi H.1 H
    · have := ready_mono hj hji
      rw [H.2.1] at this
      cases this
  | succ f ih =>
    intro listed a w hfree hr hy H
    refine ⟨H.1, fun h => (by rw [h] at hr; cases hr), fun j hj => ?_⟩
    by_cases hji : j = i
    · subst hji; exact hy.wpOp hi H.1 H
    · have h1 := H.2.2 j (ready_mono hj hji)
      obtain ⟨hjun, oj, hoj, hall⟩ := mem_ready.1 hj
      have hnot : ∀ e ∈ oj.after, Region.binds md e = true → e.on ≠ i := fun e he hb heq => by
        have h1 := hall e he hb
        have h0 := (mem_ready.1 hr).1
        rw [heq] at h1
        rcases Nat.lt_or_ge i listed.size with h' | h'
        · simp [h'] at h0 h1; rw [h0] at h1; cases h1
        · simp [Array.getElem?_eq_none h'] at h1
      have h2 := wpOp_put hQ hoj (hfree j oj hoj hji hjun hnot) (fun cs b => hsel i oi cs b hi) (fun cs b => hsel j oj cs b hoj) hy h1
      have hfree' : ∀ k ok, ops[k]? = some ok → k ≠ i → (listed.setIfInBounds j true).getD k true = false →
          (∀ e ∈ ok.after, Region.binds md e = true → e.on ≠ i) → oi.apart ops ok = true := fun k ok hk hki hun hno => by
        refine hfree k ok hk hki ?_ hno
        by_cases hjk : j = k
        · subst hjk; exact hjun
        · rw [getD_set_ne true hjk] at hun; exact hun
      refine wpOp_mono (fun a' w' h3 => ih (listed.setIfInBounds j true) a' w' hfree' (ready_mono hr (Ne.symm hji)) h3.1 ?_) h2
      rw [Array.setIfInBounds_comm _ _ hji]
      exact h3.2

/-- some operations of a list -/
def pick (l : List Oper) (is : List Nat) : List Oper := is.filterMap fun i => l[i]?
def fin (is : List Nat) (listed : Array Bool) : Array Bool := is.foldl (fun r i => r.setIfInBounds i true) listed
def headsB (md : Region.Mode) (ops : Array Oper) : List Nat → Array Bool → Bool
  | [], _ => true
  | i :: is, listed => (Region.ready md ops listed).contains i && Region.free md ops listed i && headsB md ops is (listed.setIfInBounds i true)
theorem wpAnyC_heads {l : List Oper} {Q : Exit → Act → World → Prop} (hQ : OnlyNormal Q) (hsel : Region.noSelect l.toArray = true) : ∀ (is : List Nat) (f : Nat) (listed : Array Bool) (a : Act) (w : World),
    headsB md l.toArray is listed = true → wpCalm P l.toArray C (fun a' => wpAnyC P md l.toArray Q C f (fin is listed) a' w) (pick l is) a → wpAnyC P md l.toArray Q C (f + is.length) listed a w
  | [], f, listed, a, w, _, h => h
  | i :: is, f, listed, a, w, hB, h => by
    simp only [headsB, Bool.and_eq_true] at hB
    obtain ⟨⟨hr, hf⟩, hB'⟩ := hB
    have hr' : i ∈ Region.ready md l.toArray listed := by simpa using hr
    obtain ⟨_, o, ho, _⟩ := mem_ready.1 hr'
    have ho' : l[i]? = some o := by simpa using ho
    have hp : pick l (i :: is) = o :: pick l is := by unfold pick; rw [List.filterMap_cons, ho']
    rw [hp] at h
    show wpAnyC P md l.toArray Q C ((f + is.length) + 1) listed a w
    unfold wpCalm at h
    by_cases hw : Region.wanted o (yielded l.toArray a.tmps) = true
    · rw [if_pos hw] at h
      obtain ⟨v, h1, h2⟩ := h
      exact wpAnyC_first hQ ho (Region.noSelect_spec hsel) _ listed a w (Region.free_spec ho hf) hr' (.inl ⟨hw, h1⟩) (wpAnyC_heads hQ hsel is f _ _ w hB' h2)
    · rw [if_neg hw] at h
      exact wpAnyC_first hQ ho (Region.noSelect_spec hsel) _ listed a w (Region.free_spec ho hf) hr' (.inr ⟨by simpa using hw, rfl⟩) (wpAnyC_heads hQ hsel is f _ _ w hB' h)

/-- behind one operation -/
def Then1 (K : Act → World → Prop) : Exit → Act → World → Prop
  | .normal, a, w => K a w
  | _, _, _ => False
theorem Then1.mk {K : Act → World → Prop} {a : Act} {w : World} (h : K a w) : Then1 K .normal a w := h
theorem wpOp_of_list {Q : Exit → Act → World → Prop} {i : Nat} {o : Oper} {K : Act → World → Prop} {a : Act} {w : World} (hi : ops[i]? = some o) (h : wpList P ops (Then1 K) [o] a w) : wpOp P ops Q i K a w := by
  unfold wpOp
  simp only [hi]
  unfold wpList at h
  split
  · rename_i q
    rw [if_pos q] at h
    rcases h with h | ⟨_, a9, w9, h9⟩
    · refine .inl ?_
      unfold Oper.wp at *
      generalize (execOp a.eval o).run P w = r at *
      cases r with
      | ok n w' =>
        cases n <;> first | exact h | skip
        case enter f args => exact Calls.mono h (fun e w'' he => by cases e <;> first | exact he | exact (he : False).elim | (obtain ⟨_, _, hx⟩ := he; exact (hx : False).elim))
      | halt x w' => cases x <;> first | exact (h : False).elim | exact h
    · exact (h9 : False).elim
  · rename_i q
    rw [if_neg q] at h
    exact h
/-- one of several operations comes up -/
theorem wpAnyC_node {Q : Exit → Act → World → Prop} {f : Nat} {listed : Array Bool} {a : Act} {w : World} {i : Nat} {rs : List Nat} (hr : Region.ready md ops listed = i :: rs) (hC : C w)
    (h : ∀ j ∈ i :: rs, wpOp P ops Q j (wpAnyC P md ops Q C f (listed.setIfInBounds j true)) a w) : wpAnyC P md ops Q C (f + 1) listed a w :=
  ⟨hC, fun h0 => (by rw [hr] at h0; cases h0), fun j hj => h j (by rw [hr] at hj; exact hj)⟩
theorem all1 {p : Nat → Prop} {i : Nat} (h : p i) : ∀ j ∈ [i], p j := fun j hj => by rw [List.mem_singleton.1 hj]; exact h
theorem all2 {p : Nat → Prop} {i k : Nat} (h : p i) (h2 : p k) : ∀ j ∈ [i, k], p j := fun j hj => by
  rcases List.mem_cons.1 hj with rfl | hj
  · exact h
  · rw [List.mem_singleton.1 hj]; exact h2
theorem all3 {p : Nat → Prop} {i k m : Nat} (h : p i) (h2 : p k) (h3 : p m) : ∀ j ∈ [i, k, m], p j := fun j hj => by
  rcases List.mem_cons.1 hj with rfl | hj
  · exact h
  · exact all2 h2 h3 j hj
theorem wpAnyC_leaf {Q : Exit → Act → World → Prop} {f : Nat} {listed : Array Bool} {a : Act} {w : World} (hr : Region.ready md ops listed = []) (hC : C w) (h : Q .normal a w) : wpAnyC P md ops Q C f listed a w := by
  cases f with
  | zero => exact ⟨hC, hr, h⟩
  | succ f => exact ⟨hC, fun _ => h, fun i hi => (by rw [hr] at hi; cases hi)⟩
/-- the region -/
theorem wp_region_calm {id : Nat} {Q : Exit → Act → World → Prop} {a : Act} {w : World} {l : List Oper} (C : World → Prop) (hm : P.follows .mixedOrders = true) (h : wpAnyC P .any l.toArray Q C l.toArray.size (Array.replicate l.toArray.size false) a w.drew) : (Code.region id l.toArray true).wp P Q a w :=
  wp_region_any hm (wpAny_of_C _ _ _ _ h)
/-- the normal way out alone -/
def OneOut (R : Act → World → Prop) : Exit → Act → World → Prop
  | .normal, a, w => R a w
  | _, _, _ => False
theorem OneOut.mk {R : Act → World → Prop} {a : Act} {w : World} (h : R a w) : OneOut R .normal a w := h
theorem oneOut_normal {R : Act → World → Prop} : OnlyNormal (OneOut R) := fun e a w h => by
  cases e <;> first | rfl | exact (h : False).elim
theorem OneOut.imp {R : Act → World → Prop} {Q : Exit → Act → World → Prop} (k : ∀ a w, R a w → Q .normal a w) : ∀ (e : Exit) (a : Act) (w : World), OneOut R e a w → Q e a w := fun e a w h => by
  cases e <;> first | exact k a w h | exact (h : False).elim
/-- all ways through a region, joined: their states are alike but for the numbers of one or two new blocks -/
theorem wp_one {P : Program} {c : Code} {Q : Exit → Act → World → Prop} {a : Act} {w : World} {F : Nat → Act} {R : Nat → World → Prop} (h : c.wp P (OneOut fun a' w' => ∃ b, a' = F b ∧ R b w') a w) (k : ∀ b w', R b w' → Q .normal (F b) w') : c.wp P Q a w :=
  Code.wp_mono (OneOut.imp fun a' w' ⟨b, ha, hr⟩ => by subst ha; exact k b w' hr) h
theorem wp_two {P : Program} {c : Code} {Q : Exit → Act → World → Prop} {a : Act} {w : World} {F : Nat → Nat → Act} {R : Nat → Nat → World → Prop} (h : c.wp P (OneOut fun a' w' => ∃ b d, a' = F b d ∧ R b d w') a w) (k : ∀ b d w', R b d w' → Q .normal (F b d) w') : c.wp P Q a w :=
  Code.wp_mono (OneOut.imp fun a' w' ⟨b, d, ha, hr⟩ => by subst ha; exact k b d w' hr) h
end
end Go.Proofs.YtajmjkliblippaaGreatDoor
namespace Go.Proofs.YtajmjkliblippaaGreatDoor
set_option linter.unusedVariables false
open Go.RowKit
def OneV (F : Nat → Value → Act) (R : Nat → World → Prop) (a : Act) (w : World) : Prop := ∃ b u, a = F b u ∧ R b w
theorem OneV.mk {F : Nat → Value → Act} {R : Nat → World → Prop} {a : Act} {w : World} (b : Nat) (u : Value) (h : a = F b u) (k : R b w) : OneV F R a w := ⟨b, u, h, k⟩
theorem wp_onev {P : Program} {c : Code} {Q : Exit → Act → World → Prop} {a : Act} {w : World} {F : Nat → Value → Act} {R : Nat → World → Prop} (h : c.wp P (OneOut (OneV F R)) a w) (k : ∀ b u w', R b w' → Q .normal (F b u) w') : c.wp P Q a w :=
  Code.wp_mono (OneOut.imp fun a' w' ⟨b, u, ha, hr⟩ => by subst ha; exact k b u w' hr) h
set_option maxHeartbeats 40000000 in
set_option maxRecDepth 100000 in
theorem step_okR (b : Bx4) (t m tick ve vn dr rq : Int) (L : List Rp) (v : Value) (w : World) (h : RlG L v w) (hK : ∀ i, i < L.length → 0 ≤ (nthR L i).k ∧ (nthR L i).k ≤ 255) (he : stpE2 b t m tick ve vn dr rq L.length = 0) :
    Calls Tryz.prog 17 #[.agg #[.int .i64 b.cx, .int .i64 b.cy, .int .i64 b.x, .int .i64 b.y, .int .i64 t, .int .i64 m], .agg #[.int .i64 tick, v, .int .i64 ve, .int .i64 vn, .int .i64 dr, .int .i64 rq]] w fun e w' => e = .returned (.tuple #[.agg #[.int .i64 (stpC b t m tick ve vn dr L).box.cx, .int .i64 (stpC b t m tick ve vn dr L).box.cy, .int .i64 (stpC b t m tick ve vn dr L).box.x, .int .i64 (stpC b t m tick ve vn dr L).box.y, .int .i64 tick, .int .i64 (stpC b t m tick ve vn dr L).ms], .agg #[.int .i64 (stpC b t m tick ve vn dr L).box.cx, .int .i64 (stpC b t m tick ve vn dr L).box.cy, .int .i64 (stpC b t m tick ve vn dr L).box.x, .int .i64 (stpC b t m tick ve vn dr L).box.y, .bool (useB (stpC b t m tick ve vn dr L).box.x (stpC b t m tick ve vn dr L).box.y rq), .int .i64 (stpC b t m tick ve vn dr L).ex], .int .i64 0]) ∧ Below w.heap.size w w' := by
  obtain ⟨p, cap, rfl⟩ := rg_form h
  have H := Lib.hid h
  clear h
  obtain ⟨hc, h0, ⟨h1, h2, h3⟩, h8, h4⟩ := stp_ok2 he
  obtain ⟨_, ⟨c0, c1⟩, c2, c3⟩ := chkS_ok hc
  have CK0 := fun w => ncheck_any b t m w
  rw [hc] at CK0
  have CO0 := fun w => coast_any b ve vn dr (tick - t) w
  rw [(cst_val h4).2.2.2] at CO0
  have US0 := Lib.hid fun a0 a1 a2 a3 k w => usable_any a0 a1 a2 a3 k rq false w
  have E0 : stpC b t m tick ve vn dr L = cycF (movB b ve vn dr (tick - t)) m (rowsT tick (movB b ve vn dr (tick - t)).cx (movB b ve vn dr (tick - t)).cy (movB b ve vn dr (tick - t)).x (movB b ve vn dr (tick - t)).y L) := rfl
  generalize stpC b t m tick ve vn dr L = q at *
  have sw : IntKind.i64.wrap (tick - t) = tick - t := IntWalk.i64_in _ (by omega)
  have sm : IntKind.i64.wrap (m + 1) = m + 1 := IntWalk.i64_in _ (by omega)
  have g0 : decide (tick ≤ t) = false := by simp; omega
  have g1 : decide (1099511627776 < tick) = false := by simp; omega
  have g2 : decide (rq < 0) = false := by simp; omega
  have g3 : decide (2000000 < rq) = false := by simp; omega
  have g4 : decide (8 < L.length) = false := by simp; omega
  have g5 : decide ((8 : Int) < (L.length : Int)) = false := by simp; omega
  have hn : L.length ≤ 20000 := by omega
  clear he hc h0 h1 h2 h3 h4 h8 c0 c1 c2 c3
  generalize movB b ve vn dr (tick - t) = r at *
  have RW := Lib.hid fun w h => nrows_any L (.slice p L.length cap) tick ve vn dr rq r.cx r.cy r.x r.y w h hK hn
  obtain ⟨l, hl⟩ : ∃ z, rowsT tick r.cx r.cy r.x r.y L = z := ⟨_, rfl⟩
  rw [hl] at RW E0
  clear hl hn hK
  have FX := Lib.hid fun v w h => fix_any l v r w h
  unfold cycF at E0
  generalize fixF l r = f at *
  obtain ⟨⟨⟨dx, dy, d1, d2⟩, k⟩, ok⟩ := f
  obtain ⟨cx', cy', x', y'⟩ := r
  obtain ⟨cx, cy, x, y⟩ := b
  simp only at CK0 CO0 E0 RW FX
  obtain ⟨m1, hm1⟩ : ∃ z, min (m + 1) 1000 = z := ⟨_, rfl⟩
  rw [hm1] at E0
  have EV0 := Lib.hid E0
  have CK := Lib.hid CK0
  have CO := Lib.hid CO0
  clear CK0 CO0 E0
  obtain ⟨KS, KI, KA, KE, KC, HB⟩ := ent5 w #[.int .i64 cx, .int .i64 cy, .int .i64 x, .int .i64 y, .int .i64 t, .int .i64 m] 27 #[.int .i64 tick, .slice p L.length cap, .int .i64 ve, .int .i64 vn, .int .i64 dr, .int .i64 rq] 38 #[.int .i64 0, .int .i64 0, .int .i64 0, .int .i64 0, .int .i64 0, .int .i64 0] 27 #[.int .i64 0, .int .i64 0, .int .i64 0, .int .i64 0, .bool false, .int .i64 0] 41 #[.int .i64 0, .int .i64 0, .int .i64 0, .int .i64 0] 25
  go_enter Tryz.func17, Tryz.ntmps17
  go_wp2_with fail
  generalize ((((w.alloc (.cells #[.int .i64 cx, .int .i64 cy, .int .i64 x, .int .i64 y, .int .i64 t, .int .i64 m] 27)).alloc (.cells #[.int .i64 tick, .slice p L.length cap, .int .i64 ve, .int .i64 vn, .int .i64 dr, .int .i64 rq] 38)).alloc (.cells #[.int .i64 0, .int .i64 0, .int .i64 0, .int .i64 0, .int .i64 0, .int .i64 0] 27)).alloc (.cells #[.int .i64 0, .int .i64 0, .int .i64 0, .int .i64 0, .bool false, .int .i64 0] 41)).alloc (.cells #[.int .i64 0, .int .i64 0, .int .i64 0, .int .i64 0] 25) = w0 at *
  refine (CK.out _).mono ?_
  rintro e1 w1 ⟨rfl, hb1⟩
  replace HB := hT HB hb1
  replace KS := hK KS hb1
  replace KI := hK KI hb1
  replace KA := hK KA hb1
  replace KE := hK KE hb1
  replace KC := hK KC hb1
  clear hb1
  obtain ⟨yS_0, yS_1, yS_2, yS_3, yS_4, yS_5, yS_z⟩ := blk6 KS
  obtain ⟨yI_0, yI_1, yI_2, yI_3, yI_4, yI_5, yI_z⟩ := blk6 KI
  go_wp2_with fail
  refine (CO.out _).mono ?_
  rintro e2 w2 ⟨rfl, hb2⟩
  replace HB := hT HB hb2
  replace KS := hK KS hb2
  replace KI := hK KI hb2
  replace KA := hK KA hb2
  replace KE := hK KE hb2
  replace KC := hK KC hb2
  clear yS_0 yS_1 yS_2 yS_3 yS_4 yS_5 yS_z yI_0 yI_1 yI_2 yI_3 yI_4 yI_5 yI_z
  clear hb2
  obtain ⟨yS_0, yS_1, yS_2, yS_3, yS_4, yS_5, yS_z⟩ := blk6 KS
  obtain ⟨yI_0, yI_1, yI_2, yI_3, yI_4, yI_5, yI_z⟩ := blk6 KI
  obtain ⟨yC_0, yC_1, yC_2, yC_3, yC_z, yC_f0, yC_f1, yC_f2, yC_f3⟩ := blf4 KC
  go_wp2_with fail
  have hs := st4 w2 (w.heap.size + 1 + 1 + 1 + 1) 0 (.int .i64 (cx')) 1 (.int .i64 (cy')) 2 (.int .i64 (x')) 3 (.int .i64 (y'))
  replace KS := oB hs KS (by omega)
  replace KI := oB hs KI (by omega)
  replace KA := oB hs KA (by omega)
  replace KE := oB hs KE (by omega)
  replace KC := Lib.hid (blk_set (blk_set (blk_set (blk_set KC.out (j := 0) (by simp) (.int .i64 (cx'))) (j := 1) (by simp) (.int .i64 (cy'))) (j := 2) (by simp) (.int .i64 (x'))) (j := 3) (by simp) (.int .i64 (y')))
  replace HB := oH hs HB (by omega)
  clear hs
  clear yS_0 yS_1 yS_2 yS_3 yS_4 yS_5 yS_z yI_0 yI_1 yI_2 yI_3 yI_4 yI_5 yI_z yC_0 yC_1 yC_2 yC_3 yC_z yC_f0 yC_f1 yC_f2 yC_f3
  simp only [List.set] at KC
  have hz9 : ((((w2.setCell ⟨(w.heap.size + 1 + 1 + 1 + 1), 0, none⟩ (.int .i64 (cx'))).setCell ⟨(w.heap.size + 1 + 1 + 1 + 1), 1, none⟩ (.int .i64 (cy'))).setCell ⟨(w.heap.size + 1 + 1 + 1 + 1), 2, none⟩ (.int .i64 (x'))).setCell ⟨(w.heap.size + 1 + 1 + 1 + 1), 3, none⟩ (.int .i64 (y'))).heap.size = w2.heap.size := by simp [World.setCell]
  generalize (((w2.setCell ⟨(w.heap.size + 1 + 1 + 1 + 1), 0, none⟩ (.int .i64 (cx'))).setCell ⟨(w.heap.size + 1 + 1 + 1 + 1), 1, none⟩ (.int .i64 (cy'))).setCell ⟨(w.heap.size + 1 + 1 + 1 + 1), 2, none⟩ (.int .i64 (x'))).setCell ⟨(w.heap.size + 1 + 1 + 1 + 1), 3, none⟩ (.int .i64 (y')) = w9 at *
  rw [← hz9]
  clear hz9
  obtain ⟨KN, hb4⟩ := alB w9 #[.int .i64 (cx'), .int .i64 (cy'), .int .i64 (x'), .int .i64 (y'), .int .i64 tick, .int .i64 m1] 27
  have hnN := HB.out.size
  have nzN_S := KS.out.lt
  have nzN_I := KI.out.lt
  have nzN_A := KA.out.lt
  have nzN_E := KE.out.lt
  have nzN_C := KC.out.lt
  replace HB := hT HB hb4
  replace KS := hK KS hb4
  replace KI := hK KI hb4
  replace KA := hK KA hb4
  replace KE := hK KE hb4
  replace KC := hK KC hb4
  clear hb4
  generalize w9.alloc (.cells #[.int .i64 (cx'), .int .i64 (cy'), .int .i64 (x'), .int .i64 (y'), .int .i64 tick, .int .i64 m1] 27) = w4 at *
  generalize w9.heap.size = bN at *
  have neN_S : bN ≠ w.heap.size := by omega
  have neN_I : bN ≠ (w.heap.size + 1) := by omega
  have neN_A : bN ≠ (w.heap.size + 1 + 1) := by omega
  have neN_E : bN ≠ (w.heap.size + 1 + 1 + 1) := by omega
  have neN_C : bN ≠ (w.heap.size + 1 + 1 + 1 + 1) := by omega
  clear nzN_S nzN_I nzN_A nzN_E nzN_C
  have gI_0 := fun d os => cell_regrown (KI.out.c 0 _ rfl) d os
  have gI_1 := fun d os => cell_regrown (KI.out.c 1 _ rfl) d os
  have gI_2 := fun d os => cell_regrown (KI.out.c 2 _ rfl) d os
  have gI_3 := fun d os => cell_regrown (KI.out.c 3 _ rfl) d os
  have gI_4 := fun d os => cell_regrown (KI.out.c 4 _ rfl) d os
  have gI_5 := fun d os => cell_regrown (KI.out.c 5 _ rfl) d os
  have gC_0 := fun d os => cell_regrown (KC.out.c 0 _ rfl) d os
  have gC_1 := fun d os => cell_regrown (KC.out.c 1 _ rfl) d os
  have gC_2 := fun d os => cell_regrown (KC.out.c 2 _ rfl) d os
  have gC_3 := fun d os => cell_regrown (KC.out.c 3 _ rfl) d os
  apply wp_onev (R := fun b w' => w.heap.size ≤ b ∧ b ≠ w.heap.size ∧ b ≠ (w.heap.size + 1) ∧ b ≠ (w.heap.size + 1 + 1) ∧ b ≠ (w.heap.size + 1 + 1 + 1) ∧ b ≠ (w.heap.size + 1 + 1 + 1 + 1) ∧ b ≠ bN ∧ Hid (Below w.heap.size w w') ∧ Hid (Blk [.int .i64 dx, .int .i64 dy, .int .i64 d1, .int .i64 d2] b w') ∧ Hid (Blk [.int .i64 cx, .int .i64 cy, .int .i64 x, .int .i64 y, .int .i64 t, .int .i64 m] w.heap.size w') ∧ Hid (Blk [.int .i64 tick, .slice p L.length cap, .int .i64 ve, .int .i64 vn, .int .i64 dr, .int .i64 rq] (w.heap.size + 1) w') ∧ Hid (Blk [.int .i64 0, .int .i64 0, .int .i64 0, .int .i64 0, .int .i64 0, .int .i64 0] (w.heap.size + 1 + 1) w') ∧ Hid (Blk [.int .i64 0, .int .i64 0, .int .i64 0, .int .i64 0, .bool false, .int .i64 0] (w.heap.size + 1 + 1 + 1) w') ∧ Hid (Blk [.int .i64 (cx'), .int .i64 (cy'), .int .i64 (x'), .int .i64 (y')] (w.heap.size + 1 + 1 + 1 + 1) w') ∧ Hid (Blk [.int .i64 (cx'), .int .i64 (cy'), .int .i64 (x'), .int .i64 (y'), .int .i64 tick, .int .i64 m1] bN w'))
  · refine wp_region_calm (fun w' => ∃ p : Regrown, w' = Go.Sort.grow (redrawn w4 p.d) p.os) (by kernel_rfl) ?_
    refine wpAnyC_heads oneOut_normal (by kernel_rfl) [0, 1, 3] 10 (Array.replicate 13 false) _ _ (by kernel_rfl) ?_
    simp only [pick, List.filterMap_cons, List.filterMap_nil, List.getElem?_cons_zero, List.getElem?_cons_succ]
    repeat (refine wpCalm_step (fun K hK => ?_); go_simp; first | (refine hK _ ?_; clear hK K) | (refine ⟨_, fun _ => calm_intro, hK _ ?_⟩; clear hK K))
    refine wpCalm_nil ?_
    have HX := Lib.hid (below_drew1 (Below.refl w4.heap.size w4))
    generalize w4.drew = wa at HX ⊢
    refine wpAnyC_node (i := 2) (rs := [9]) (by kernel_rfl) (regrown_of_below HX.out) (all2 ?_ ?_)
    · refine wpOp_of_list (by rfl) ?_
      go_wp2_with fail
      refine (RW.out _ (H.out.below (HB.out.trans (HX.out.mono HB.out.size)))).mono ?_
      rintro e71 wc71 ⟨⟨ur, rfl, hom⟩, hb71⟩
      have OL := Lib.hid hom.lst
      clear hom
      go_wp2_with fail
      refine Then1.mk ?_
      replace HX := Lib.hid (HX.out.trans (hb71.mono HX.out.size))
      clear hb71
      refine wpAnyC_node (i := 4) (rs := [9]) (by kernel_rfl) (regrown_of_below HX.out) (all2 ?_ ?_)
      · refine wpOp_of_list (by rfl) ?_
        go_wp2_with fail
        refine (FX.out _ _ OL.out).mono ?_
        rintro e72 wc72 ⟨rfl, hb72⟩
        go_wp2_with fail
        refine Then1.mk ?_
        replace HX := Lib.hid (HX.out.trans (hb72.mono HX.out.size))
        clear hb72
        clear OL
        refine wpAnyC_heads oneOut_normal (by kernel_rfl) [5, 6, 7, 8] 4 _ _ _ (by kernel_rfl) ?_
        simp only [pick, List.filterMap_cons, List.filterMap_nil, List.getElem?_cons_zero, List.getElem?_cons_succ]
        repeat (refine wpCalm_step (fun K hK => ?_); go_simp; first | (refine hK _ ?_; clear hK K) | (refine ⟨_, fun _ => calm_intro, hK _ ?_⟩; clear hK K))
        refine wpCalm_nil ?_
        refine wpAnyC_node (i := 9) (rs := []) (by kernel_rfl) (regrown_of_below HX.out) (all1 ?_)
        · refine wpOp_of_list (by rfl) ?_
          go_wp2_with fail
          refine Then1.mk ?_
          have KM := Lib.hid (Blk.of (vs := #[.int .i64 0, .int .i64 0, .int .i64 0, .int .i64 0]) (t := 25) (w := wc72) (b := wc72.heap.size) rfl)
          have hM := HX.out.size
          replace HX := Lib.hid (HX.out.alloc HX.out.size (.cells #[.int .i64 0, .int .i64 0, .int .i64 0, .int .i64 0] 25))
          generalize wc72.alloc (.cells #[.int .i64 0, .int .i64 0, .int .i64 0, .int .i64 0] 25) = wc73 at *
          generalize wc72.heap.size = bM at *
          refine wpAnyC_node (i := 10) (rs := []) (by kernel_rfl) (regrown_of_below HX.out) (all1 ?_)
          refine wpOp_of_list (by rfl) ?_
          have yM := KM.out
          have yM_0 := yM.c 0 _ rfl
          have yM_1 := yM.c 1 _ rfl
          have yM_2 := yM.c 2 _ rfl
          have yM_3 := yM.c 3 _ rfl
          have yM_f0 := yM.f 0 _ rfl
          have yM_f1 := yM.f 1 _ rfl
          have yM_f2 := yM.f 2 _ rfl
          have yM_f3 := yM.f 3 _ rfl
          have yM_z := yM.lt
          clear yM
          go_wp2_with fail
          refine Then1.mk ?_
          replace KM := Lib.hid (blk_set (blk_set (blk_set (blk_set KM.out (j := 0) (by simp) (.int .i64 dx)) (j := 1) (by simp) (.int .i64 dy)) (j := 2) (by simp) (.int .i64 d1)) (j := 3) (by simp) (.int .i64 d2))
          replace HX := Lib.hid ((((HX.out.setCell (p := ⟨bM, 0, none⟩) hM (.int .i64 dx)).setCell (p := ⟨bM, 1, none⟩) hM (.int .i64 dy)).setCell (p := ⟨bM, 2, none⟩) hM (.int .i64 d1)).setCell (p := ⟨bM, 3, none⟩) hM (.int .i64 d2))
          clear yM_0 yM_f0 yM_1 yM_f1 yM_2 yM_f2 yM_3 yM_f3 yM_z
          generalize (((wc73.setCell ⟨bM, 0, none⟩ (.int .i64 dx)).setCell ⟨bM, 1, none⟩ (.int .i64 dy)).setCell ⟨bM, 2, none⟩ (.int .i64 d1)).setCell ⟨bM, 3, none⟩ (.int .i64 d2) = wz at *
          simp only [List.set] at KM
          refine wpAnyC_heads oneOut_normal (by kernel_rfl) [11, 12] 0 _ _ _ (by kernel_rfl) ?_
          simp only [pick, List.filterMap_cons, List.filterMap_nil, List.getElem?_cons_zero, List.getElem?_cons_succ]
          repeat (refine wpCalm_step (fun K hK => ?_); go_simp; first | (refine hK _ ?_; clear hK K) | (refine ⟨_, fun _ => calm_intro, hK _ ?_⟩; clear hK K))
          refine wpCalm_nil ?_
          refine wpAnyC_leaf (by kernel_rfl) (regrown_of_below HX.out) (OneOut.mk ?_)
          obtain ⟨bQ, hbQ⟩ := ex_blk KM
          rw [← hbQ] at KM hM ⊢
          refine OneV.mk bQ ur rfl ?_
          exact ⟨Nat.le_trans HB.out.size hM, Nat.ne_of_gt (Nat.lt_of_lt_of_le KS.out.lt hM), Nat.ne_of_gt (Nat.lt_of_lt_of_le KI.out.lt hM), Nat.ne_of_gt (Nat.lt_of_lt_of_le KA.out.lt hM), Nat.ne_of_gt (Nat.lt_of_lt_of_le KE.out.lt hM), Nat.ne_of_gt (Nat.lt_of_lt_of_le KC.out.lt hM), Nat.ne_of_gt (Nat.lt_of_lt_of_le KN.out.lt hM), Lib.hid (HB.out.trans (HX.out.mono HB.out.size)), KM, Lib.hid (KS.out.below HX.out), Lib.hid (KI.out.below HX.out), Lib.hid (KA.out.below HX.out), Lib.hid (KE.out.below HX.out), Lib.hid (KC.out.below HX.out), Lib.hid (KN.out.below HX.out)⟩
      · refine wpOp_of_list (by rfl) ?_
        go_wp2_with fail
        refine Then1.mk ?_
        have hl9 := OL.out.below ((Below.refl _ _).alloc (Nat.le_refl _) (.cells #[.int .i64 0, .int .i64 0, .int .i64 0, .int .i64 0] 25))
        replace OL := Lib.hid hl9
        clear hl9
        have KM := Lib.hid (Blk.of (vs := #[.int .i64 0, .int .i64 0, .int .i64 0, .int .i64 0]) (t := 25) (w := wc71) (b := wc71.heap.size) rfl)
        have hM := HX.out.size
        replace HX := Lib.hid (HX.out.alloc HX.out.size (.cells #[.int .i64 0, .int .i64 0, .int .i64 0, .int .i64 0] 25))
        generalize wc71.alloc (.cells #[.int .i64 0, .int .i64 0, .int .i64 0, .int .i64 0] 25) = wc72 at *
        generalize wc71.heap.size = bM at *
        refine wpAnyC_node (i := 4) (rs := []) (by kernel_rfl) (regrown_of_below HX.out) (all1 ?_)
        · refine wpOp_of_list (by rfl) ?_
          go_wp2_with fail
          refine (FX.out _ _ OL.out).mono ?_
          rintro e73 wc73 ⟨rfl, hb73⟩
          go_wp2_with fail
          refine Then1.mk ?_
          replace HX := Lib.hid (HX.out.trans (hb73.mono HX.out.size))
          replace KM := Lib.hid (KM.out.below hb73)
          clear hb73
          clear OL
          refine wpAnyC_heads oneOut_normal (by kernel_rfl) [5, 6, 7, 8] 3 _ _ _ (by kernel_rfl) ?_
          simp only [pick, List.filterMap_cons, List.filterMap_nil, List.getElem?_cons_zero, List.getElem?_cons_succ]
          repeat (refine wpCalm_step (fun K hK => ?_); go_simp; first | (refine hK _ ?_; clear hK K) | (refine ⟨_, fun _ => calm_intro, hK _ ?_⟩; clear hK K))
          refine wpCalm_nil ?_
          refine wpAnyC_node (i := 10) (rs := []) (by kernel_rfl) (regrown_of_below HX.out) (all1 ?_)
          refine wpOp_of_list (by rfl) ?_
          have yM := KM.out
          have yM_0 := yM.c 0 _ rfl
          have yM_1 := yM.c 1 _ rfl
          have yM_2 := yM.c 2 _ rfl
          have yM_3 := yM.c 3 _ rfl
          have yM_f0 := yM.f 0 _ rfl
          have yM_f1 := yM.f 1 _ rfl
          have yM_f2 := yM.f 2 _ rfl
          have yM_f3 := yM.f 3 _ rfl
          have yM_z := yM.lt
          clear yM
          go_wp2_with fail
          refine Then1.mk ?_
          replace KM := Lib.hid (blk_set (blk_set (blk_set (blk_set KM.out (j := 0) (by simp) (.int .i64 dx)) (j := 1) (by simp) (.int .i64 dy)) (j := 2) (by simp) (.int .i64 d1)) (j := 3) (by simp) (.int .i64 d2))
          replace HX := Lib.hid ((((HX.out.setCell (p := ⟨bM, 0, none⟩) hM (.int .i64 dx)).setCell (p := ⟨bM, 1, none⟩) hM (.int .i64 dy)).setCell (p := ⟨bM, 2, none⟩) hM (.int .i64 d1)).setCell (p := ⟨bM, 3, none⟩) hM (.int .i64 d2))
          clear yM_0 yM_f0 yM_1 yM_f1 yM_2 yM_f2 yM_3 yM_f3 yM_z
          generalize (((wc73.setCell ⟨bM, 0, none⟩ (.int .i64 dx)).setCell ⟨bM, 1, none⟩ (.int .i64 dy)).setCell ⟨bM, 2, none⟩ (.int .i64 d1)).setCell ⟨bM, 3, none⟩ (.int .i64 d2) = wz at *
          simp only [List.set] at KM
          refine wpAnyC_heads oneOut_normal (by kernel_rfl) [11, 12] 0 _ _ _ (by kernel_rfl) ?_
          simp only [pick, List.filterMap_cons, List.filterMap_nil, List.getElem?_cons_zero, List.getElem?_cons_succ]
          repeat (refine wpCalm_step (fun K hK => ?_); go_simp; first | (refine hK _ ?_; clear hK K) | (refine ⟨_, fun _ => calm_intro, hK _ ?_⟩; clear hK K))
          refine wpCalm_nil ?_
          refine wpAnyC_leaf (by kernel_rfl) (regrown_of_below HX.out) (OneOut.mk ?_)
          obtain ⟨bQ, hbQ⟩ := ex_blk KM
          rw [← hbQ] at KM hM ⊢
          refine OneV.mk bQ ur rfl ?_
          exact ⟨Nat.le_trans HB.out.size hM, Nat.ne_of_gt (Nat.lt_of_lt_of_le KS.out.lt hM), Nat.ne_of_gt (Nat.lt_of_lt_of_le KI.out.lt hM), Nat.ne_of_gt (Nat.lt_of_lt_of_le KA.out.lt hM), Nat.ne_of_gt (Nat.lt_of_lt_of_le KE.out.lt hM), Nat.ne_of_gt (Nat.lt_of_lt_of_le KC.out.lt hM), Nat.ne_of_gt (Nat.lt_of_lt_of_le KN.out.lt hM), Lib.hid (HB.out.trans (HX.out.mono HB.out.size)), KM, Lib.hid (KS.out.below HX.out), Lib.hid (KI.out.below HX.out), Lib.hid (KA.out.below HX.out), Lib.hid (KE.out.below HX.out), Lib.hid (KC.out.below HX.out), Lib.hid (KN.out.below HX.out)⟩
    · refine wpOp_of_list (by rfl) ?_
      go_wp2_with fail
      refine Then1.mk ?_
      have KM := Lib.hid (Blk.of (vs := #[.int .i64 0, .int .i64 0, .int .i64 0, .int .i64 0]) (t := 25) (w := wa) (b := wa.heap.size) rfl)
      have hM := HX.out.size
      replace HX := Lib.hid (HX.out.alloc HX.out.size (.cells #[.int .i64 0, .int .i64 0, .int .i64 0, .int .i64 0] 25))
      generalize wa.alloc (.cells #[.int .i64 0, .int .i64 0, .int .i64 0, .int .i64 0] 25) = wc71 at *
      generalize wa.heap.size = bM at *
      refine wpAnyC_node (i := 2) (rs := []) (by kernel_rfl) (regrown_of_below HX.out) (all1 ?_)
      · refine wpOp_of_list (by rfl) ?_
        go_wp2_with fail
        refine (RW.out _ (H.out.below (HB.out.trans (HX.out.mono HB.out.size)))).mono ?_
        rintro e72 wc72 ⟨⟨ur, rfl, hom⟩, hb72⟩
        have OL := Lib.hid hom.lst
        clear hom
        go_wp2_with fail
        refine Then1.mk ?_
        replace HX := Lib.hid (HX.out.trans (hb72.mono HX.out.size))
        replace KM := Lib.hid (KM.out.below hb72)
        clear hb72
        refine wpAnyC_node (i := 4) (rs := []) (by kernel_rfl) (regrown_of_below HX.out) (all1 ?_)
        · refine wpOp_of_list (by rfl) ?_
          go_wp2_with fail
          refine (FX.out _ _ OL.out).mono ?_
          rintro e73 wc73 ⟨rfl, hb73⟩
          go_wp2_with fail
          refine Then1.mk ?_
          replace HX := Lib.hid (HX.out.trans (hb73.mono HX.out.size))
          replace KM := Lib.hid (KM.out.below hb73)
          clear hb73
          clear OL
          refine wpAnyC_heads oneOut_normal (by kernel_rfl) [5, 6, 7, 8] 3 _ _ _ (by kernel_rfl) ?_
          simp only [pick, List.filterMap_cons, List.filterMap_nil, List.getElem?_cons_zero, List.getElem?_cons_succ]
          repeat (refine wpCalm_step (fun K hK => ?_); go_simp; first | (refine hK _ ?_; clear hK K) | (refine ⟨_, fun _ => calm_intro, hK _ ?_⟩; clear hK K))
          refine wpCalm_nil ?_
          refine wpAnyC_node (i := 10) (rs := []) (by kernel_rfl) (regrown_of_below HX.out) (all1 ?_)
          refine wpOp_of_list (by rfl) ?_
          have yM := KM.out
          have yM_0 := yM.c 0 _ rfl
          have yM_1 := yM.c 1 _ rfl
          have yM_2 := yM.c 2 _ rfl
          have yM_3 := yM.c 3 _ rfl
          have yM_f0 := yM.f 0 _ rfl
          have yM_f1 := yM.f 1 _ rfl
          have yM_f2 := yM.f 2 _ rfl
          have yM_f3 := yM.f 3 _ rfl
          have yM_z := yM.lt
          clear yM
          go_wp2_with fail
          refine Then1.mk ?_
          replace KM := Lib.hid (blk_set (blk_set (blk_set (blk_set KM.out (j := 0) (by simp) (.int .i64 dx)) (j := 1) (by simp) (.int .i64 dy)) (j := 2) (by simp) (.int .i64 d1)) (j := 3) (by simp) (.int .i64 d2))
          replace HX := Lib.hid ((((HX.out.setCell (p := ⟨bM, 0, none⟩) hM (.int .i64 dx)).setCell (p := ⟨bM, 1, none⟩) hM (.int .i64 dy)).setCell (p := ⟨bM, 2, none⟩) hM (.int .i64 d1)).setCell (p := ⟨bM, 3, none⟩) hM (.int .i64 d2))
          clear yM_0 yM_f0 yM_1 yM_f1 yM_2 yM_f2 yM_3 yM_f3 yM_z
          generalize (((wc73.setCell ⟨bM, 0, none⟩ (.int .i64 dx)).setCell ⟨bM, 1, none⟩ (.int .i64 dy)).setCell ⟨bM, 2, none⟩ (.int .i64 d1)).setCell ⟨bM, 3, none⟩ (.int .i64 d2) = wz at *
          simp only [List.set] at KM
          refine wpAnyC_heads oneOut_normal (by kernel_rfl) [11, 12] 0 _ _ _ (by kernel_rfl) ?_
          simp only [pick, List.filterMap_cons, List.filterMap_nil, List.getElem?_cons_zero, List.getElem?_cons_succ]
          repeat (refine wpCalm_step (fun K hK => ?_); go_simp; first | (refine hK _ ?_; clear hK K) | (refine ⟨_, fun _ => calm_intro, hK _ ?_⟩; clear hK K))
          refine wpCalm_nil ?_
          refine wpAnyC_leaf (by kernel_rfl) (regrown_of_below HX.out) (OneOut.mk ?_)
          obtain ⟨bQ, hbQ⟩ := ex_blk KM
          rw [← hbQ] at KM hM ⊢
          refine OneV.mk bQ ur rfl ?_
          exact ⟨Nat.le_trans HB.out.size hM, Nat.ne_of_gt (Nat.lt_of_lt_of_le KS.out.lt hM), Nat.ne_of_gt (Nat.lt_of_lt_of_le KI.out.lt hM), Nat.ne_of_gt (Nat.lt_of_lt_of_le KA.out.lt hM), Nat.ne_of_gt (Nat.lt_of_lt_of_le KE.out.lt hM), Nat.ne_of_gt (Nat.lt_of_lt_of_le KC.out.lt hM), Nat.ne_of_gt (Nat.lt_of_lt_of_le KN.out.lt hM), Lib.hid (HB.out.trans (HX.out.mono HB.out.size)), KM, Lib.hid (KS.out.below HX.out), Lib.hid (KI.out.below HX.out), Lib.hid (KA.out.below HX.out), Lib.hid (KE.out.below HX.out), Lib.hid (KC.out.below HX.out), Lib.hid (KN.out.below HX.out)⟩
  clear gI_0 gI_1 gI_2 gI_3 gI_4 gI_5 gC_0 gC_1 gC_2 gC_3 RW FX H
  rintro bM ur w80 ⟨nM, neM_S, neM_I, neM_A, neM_E, neM_C, neM_N, HB2, KM, KS2, KI2, KA2, KE2, KC2, KN2⟩
  replace HB := HB2
  clear HB2
  replace KS := KS2
  clear KS2
  replace KI := KI2
  clear KI2
  replace KA := KA2
  clear KA2
  replace KE := KE2
  clear KE2
  replace KC := KC2
  clear KC2
  replace KN := KN2
  clear KN2
  cases ok with
  | false =>
    have EV := Lib.hid (EV0.out.trans (if_neg (by decide)))
    have US := Lib.hid (US0.out cx' cy' x' y' 0)
    obtain ⟨us, hus⟩ : ∃ z, useB x' y' rq = z := ⟨_, rfl⟩
    rw [hus] at US
    have EU := Lib.hid hus
    clear hus EV0 US0
    obtain ⟨yI_0, yI_1, yI_2, yI_3, yI_4, yI_5, yI_z⟩ := blk6 KI
    obtain ⟨yN_0, yN_1, yN_2, yN_3, yN_4, yN_5, yN_z⟩ := blk6 KN
    go_wp2_with fail
    obtain ⟨KT, hb81⟩ := alB w80 #[.int .i64 (cx'), .int .i64 (cy'), .int .i64 (x'), .int .i64 (y'), .bool false, .int .i64 0] 41
    have hnT := HB.out.size
    have nzT_S := KS.out.lt
    have nzT_I := KI.out.lt
    have nzT_A := KA.out.lt
    have nzT_E := KE.out.lt
    have nzT_C := KC.out.lt
    have nzT_N := KN.out.lt
    have nzT_M := KM.out.lt
    replace HB := hT HB hb81
    replace KS := hK KS hb81
    replace KI := hK KI hb81
    replace KA := hK KA hb81
    replace KE := hK KE hb81
    replace KC := hK KC hb81
    replace KN := hK KN hb81
    replace KM := hK KM hb81
    clear yI_0 yI_1 yI_2 yI_3 yI_4 yI_5 yI_z yN_0 yN_1 yN_2 yN_3 yN_4 yN_5 yN_z
    clear hb81
    generalize w80.alloc (.cells #[.int .i64 (cx'), .int .i64 (cy'), .int .i64 (x'), .int .i64 (y'), .bool false, .int .i64 0] 41) = w81 at *
    generalize w80.heap.size = bT at *
    have neT_S : bT ≠ w.heap.size := by omega
    have neT_I : bT ≠ (w.heap.size + 1) := by omega
    have neT_A : bT ≠ (w.heap.size + 1 + 1) := by omega
    have neT_E : bT ≠ (w.heap.size + 1 + 1 + 1) := by omega
    have neT_C : bT ≠ (w.heap.size + 1 + 1 + 1 + 1) := by omega
    have neT_N : bT ≠ bN := by omega
    have neT_M : bT ≠ bM := by omega
    clear nzT_S nzT_I nzT_A nzT_E nzT_C nzT_N nzT_M
    refine (US.out _).mono ?_
    rintro e82 w82 ⟨rfl, hb82⟩
    replace HB := hT HB hb82
    replace KS := hK KS hb82
    replace KI := hK KI hb82
    replace KA := hK KA hb82
    replace KE := hK KE hb82
    replace KC := hK KC hb82
    replace KN := hK KN hb82
    replace KM := hK KM hb82
    replace KT := hK KT hb82
    clear hb82
    obtain ⟨yA_0, yA_1, yA_2, yA_3, yA_4, yA_5, yA_z, yA_f0, yA_f1, yA_f2, yA_f3, yA_f4, yA_f5⟩ := blf6 KA
    obtain ⟨yE_0, yE_1, yE_2, yE_3, yE_4, yE_5, yE_z, yE_f0, yE_f1, yE_f2, yE_f3, yE_f4, yE_f5⟩ := blf6 KE
    obtain ⟨yN_0, yN_1, yN_2, yN_3, yN_4, yN_5, yN_z⟩ := blk6 KN
    obtain ⟨yT_0, yT_1, yT_2, yT_3, yT_4, yT_5, yT_z, yT_f0, yT_f1, yT_f2, yT_f3, yT_f4, yT_f5⟩ := blf6 KT
    go_wp2_with fail
    have hs := st1 w82 bT 4 (.bool us)
    replace KS := oB hs KS (by omega)
    replace KI := oB hs KI (by omega)
    replace KA := oB hs KA (by omega)
    replace KE := oB hs KE (by omega)
    replace KC := oB hs KC (by omega)
    replace KN := oB hs KN (by omega)
    replace KM := oB hs KM (by omega)
    replace KT := Lib.hid (blk_set KT.out (j := 4) (by simp) (.bool us))
    replace HB := oH hs HB (by omega)
    clear hs
    clear yA_0 yA_1 yA_2 yA_3 yA_4 yA_5 yA_z yA_f0 yA_f1 yA_f2 yA_f3 yA_f4 yA_f5 yE_0 yE_1 yE_2 yE_3 yE_4 yE_5 yE_z yE_f0 yE_f1 yE_f2 yE_f3 yE_f4 yE_f5 yN_0 yN_1 yN_2 yN_3 yN_4 yN_5 yN_z yT_0 yT_1 yT_2 yT_3 yT_4 yT_5 yT_z yT_f0 yT_f1 yT_f2 yT_f3 yT_f4 yT_f5
    generalize w82.setCell ⟨bT, 4, none⟩ (.bool us) = w83 at *
    simp only [List.set] at KT
    obtain ⟨yA_0, yA_1, yA_2, yA_3, yA_4, yA_5, yA_z, yA_f0, yA_f1, yA_f2, yA_f3, yA_f4, yA_f5⟩ := blf6 KA
    obtain ⟨yE_0, yE_1, yE_2, yE_3, yE_4, yE_5, yE_z, yE_f0, yE_f1, yE_f2, yE_f3, yE_f4, yE_f5⟩ := blf6 KE
    obtain ⟨yN_0, yN_1, yN_2, yN_3, yN_4, yN_5, yN_z⟩ := blk6 KN
    obtain ⟨yT_0, yT_1, yT_2, yT_3, yT_4, yT_5, yT_z⟩ := blk6 KT
    go_region
    have hs := st6 w83 (w.heap.size + 1 + 1) 0 (.int .i64 (cx')) 1 (.int .i64 (cy')) 2 (.int .i64 (x')) 3 (.int .i64 (y')) 4 (.int .i64 tick) 5 (.int .i64 m1)
    replace KS := oB hs KS (by omega)
    replace KI := oB hs KI (by omega)
    replace KA := Lib.hid (blk_set (blk_set (blk_set (blk_set (blk_set (blk_set KA.out (j := 0) (by simp) (.int .i64 (cx'))) (j := 1) (by simp) (.int .i64 (cy'))) (j := 2) (by simp) (.int .i64 (x'))) (j := 3) (by simp) (.int .i64 (y'))) (j := 4) (by simp) (.int .i64 tick)) (j := 5) (by simp) (.int .i64 m1))
    replace KE := oB hs KE (by omega)
    replace KC := oB hs KC (by omega)
    replace KN := oB hs KN (by omega)
    replace KM := oB hs KM (by omega)
    replace KT := oB hs KT (by omega)
    replace HB := oH hs HB (by omega)
    clear hs
    clear yA_0 yA_1 yA_2 yA_3 yA_4 yA_5 yA_z yA_f0 yA_f1 yA_f2 yA_f3 yA_f4 yA_f5 yE_0 yE_1 yE_2 yE_3 yE_4 yE_5 yE_z yE_f0 yE_f1 yE_f2 yE_f3 yE_f4 yE_f5 yN_0 yN_1 yN_2 yN_3 yN_4 yN_5 yN_z yT_0 yT_1 yT_2 yT_3 yT_4 yT_5 yT_z
    simp only [List.set] at KA
    have hs := st6 ((((((w83.setCell ⟨(w.heap.size + 1 + 1), 0, none⟩ (.int .i64 (cx'))).setCell ⟨(w.heap.size + 1 + 1), 1, none⟩ (.int .i64 (cy'))).setCell ⟨(w.heap.size + 1 + 1), 2, none⟩ (.int .i64 (x'))).setCell ⟨(w.heap.size + 1 + 1), 3, none⟩ (.int .i64 (y'))).setCell ⟨(w.heap.size + 1 + 1), 4, none⟩ (.int .i64 tick)).setCell ⟨(w.heap.size + 1 + 1), 5, none⟩ (.int .i64 m1)) (w.heap.size + 1 + 1 + 1) 0 (.int .i64 (cx')) 1 (.int .i64 (cy')) 2 (.int .i64 (x')) 3 (.int .i64 (y')) 4 (.bool us) 5 (.int .i64 0)
    replace KS := oB hs KS (by omega)
    replace KI := oB hs KI (by omega)
    replace KA := oB hs KA (by omega)
    replace KE := Lib.hid (blk_set (blk_set (blk_set (blk_set (blk_set (blk_set KE.out (j := 0) (by simp) (.int .i64 (cx'))) (j := 1) (by simp) (.int .i64 (cy'))) (j := 2) (by simp) (.int .i64 (x'))) (j := 3) (by simp) (.int .i64 (y'))) (j := 4) (by simp) (.bool us)) (j := 5) (by simp) (.int .i64 0))
    replace KC := oB hs KC (by omega)
    replace KN := oB hs KN (by omega)
    replace KM := oB hs KM (by omega)
    replace KT := oB hs KT (by omega)
    replace HB := oH hs HB (by omega)
    clear hs
    simp only [List.set] at KE
    replace KS := Lib.hid (blk_drew1 KS.out)
    replace KI := Lib.hid (blk_drew1 KI.out)
    replace KA := Lib.hid (blk_drew1 KA.out)
    replace KE := Lib.hid (blk_drew1 KE.out)
    replace KC := Lib.hid (blk_drew1 KC.out)
    replace KN := Lib.hid (blk_drew1 KN.out)
    replace KM := Lib.hid (blk_drew1 KM.out)
    replace KT := Lib.hid (blk_drew1 KT.out)
    replace HB := Lib.hid (below_drew1 HB.out)
    generalize (((((((((((((w83.setCell ⟨(w.heap.size + 1 + 1), 0, none⟩ (.int .i64 (cx'))).setCell ⟨(w.heap.size + 1 + 1), 1, none⟩ (.int .i64 (cy'))).setCell ⟨(w.heap.size + 1 + 1), 2, none⟩ (.int .i64 (x'))).setCell ⟨(w.heap.size + 1 + 1), 3, none⟩ (.int .i64 (y'))).setCell ⟨(w.heap.size + 1 + 1), 4, none⟩ (.int .i64 tick)).setCell ⟨(w.heap.size + 1 + 1), 5, none⟩ (.int .i64 m1)).setCell ⟨(w.heap.size + 1 + 1 + 1), 0, none⟩ (.int .i64 (cx'))).setCell ⟨(w.heap.size + 1 + 1 + 1), 1, none⟩ (.int .i64 (cy'))).setCell ⟨(w.heap.size + 1 + 1 + 1), 2, none⟩ (.int .i64 (x'))).setCell ⟨(w.heap.size + 1 + 1 + 1), 3, none⟩ (.int .i64 (y'))).setCell ⟨(w.heap.size + 1 + 1 + 1), 4, none⟩ (.bool us)).setCell ⟨(w.heap.size + 1 + 1 + 1), 5, none⟩ (.int .i64 0))).drew = w86 at *
    obtain ⟨yA_0, yA_1, yA_2, yA_3, yA_4, yA_5, yA_z⟩ := blk6 KA
    obtain ⟨yE_0, yE_1, yE_2, yE_3, yE_4, yE_5, yE_z⟩ := blk6 KE
    go_wp2
    refine bodyPost_ret (v := .tuple #[.agg #[.int .i64 (cx'), .int .i64 (cy'), .int .i64 (x'), .int .i64 (y'), .int .i64 tick, .int .i64 m1], .agg #[.int .i64 (cx'), .int .i64 (cy'), .int .i64 (x'), .int .i64 (y'), .bool us, .int .i64 0], .int .i64 0]) (by simp [results, Tryz.results17, go_sem, yA_0, yA_1, yA_2, yA_3, yA_4, yA_5, yE_0, yE_1, yE_2, yE_3, yE_4, yE_5]) rfl ⟨by rw [EV.out, EU.out], HB.out⟩
  | true =>
    have EV := Lib.hid (EV0.out.trans (if_pos rfl))
    have US := Lib.hid (US0.out dx dy d1 d2 k)
    obtain ⟨us, hus⟩ : ∃ z, useB d1 d2 rq = z := ⟨_, rfl⟩
    rw [hus] at US
    have EU := Lib.hid hus
    clear hus EV0 US0
    obtain ⟨yN_0, yN_1, yN_2, yN_3, yN_4, yN_5, yN_z, yN_f0, yN_f1, yN_f2, yN_f3, yN_f4, yN_f5⟩ := blf6 KN
    obtain ⟨yM_0, yM_1, yM_2, yM_3, yM_z⟩ := blk4 KM
    go_upto_region 18 with (fail)
    have hs := st5 w80 bN 0 (.int .i64 dx) 1 (.int .i64 dy) 2 (.int .i64 d1) 3 (.int .i64 d2) 5 (.int .i64 0)
    replace KS := oB hs KS (by omega)
    replace KI := oB hs KI (by omega)
    replace KA := oB hs KA (by omega)
    replace KE := oB hs KE (by omega)
    replace KC := oB hs KC (by omega)
    replace KN := Lib.hid (blk_set (blk_set (blk_set (blk_set (blk_set KN.out (j := 0) (by simp) (.int .i64 dx)) (j := 1) (by simp) (.int .i64 dy)) (j := 2) (by simp) (.int .i64 d1)) (j := 3) (by simp) (.int .i64 d2)) (j := 5) (by simp) (.int .i64 0))
    replace KM := oB hs KM (by omega)
    replace HB := oH hs HB (by omega)
    clear hs
    clear yN_0 yN_1 yN_2 yN_3 yN_4 yN_5 yN_z yN_f0 yN_f1 yN_f2 yN_f3 yN_f4 yN_f5 yM_0 yM_1 yM_2 yM_3 yM_z
    generalize ((((w80.setCell ⟨bN, 0, none⟩ (.int .i64 dx)).setCell ⟨bN, 1, none⟩ (.int .i64 dy)).setCell ⟨bN, 2, none⟩ (.int .i64 d1)).setCell ⟨bN, 3, none⟩ (.int .i64 d2)).setCell ⟨bN, 5, none⟩ (.int .i64 0) = w81 at *
    simp only [List.set] at KN
    obtain ⟨yI_0, yI_1, yI_2, yI_3, yI_4, yI_5, yI_z⟩ := blk6 KI
    obtain ⟨yN_0, yN_1, yN_2, yN_3, yN_4, yN_5, yN_z⟩ := blk6 KN
    go_wp2_with fail
    obtain ⟨KT, hb82⟩ := alB w81 #[.int .i64 dx, .int .i64 dy, .int .i64 d1, .int .i64 d2, .bool false, .int .i64 k] 41
    have hnT := HB.out.size
    have nzT_S := KS.out.lt
    have nzT_I := KI.out.lt
    have nzT_A := KA.out.lt
    have nzT_E := KE.out.lt
    have nzT_C := KC.out.lt
    have nzT_N := KN.out.lt
    have nzT_M := KM.out.lt
    replace HB := hT HB hb82
    replace KS := hK KS hb82
    replace KI := hK KI hb82
    replace KA := hK KA hb82
    replace KE := hK KE hb82
    replace KC := hK KC hb82
    replace KN := hK KN hb82
    replace KM := hK KM hb82
    clear yI_0 yI_1 yI_2 yI_3 yI_4 yI_5 yI_z yN_0 yN_1 yN_2 yN_3 yN_4 yN_5 yN_z
    clear hb82
    generalize w81.alloc (.cells #[.int .i64 dx, .int .i64 dy, .int .i64 d1, .int .i64 d2, .bool false, .int .i64 k] 41) = w82 at *
    generalize w81.heap.size = bT at *
    have neT_S : bT ≠ w.heap.size := by omega
    have neT_I : bT ≠ (w.heap.size + 1) := by omega
    have neT_A : bT ≠ (w.heap.size + 1 + 1) := by omega
    have neT_E : bT ≠ (w.heap.size + 1 + 1 + 1) := by omega
    have neT_C : bT ≠ (w.heap.size + 1 + 1 + 1 + 1) := by omega
    have neT_N : bT ≠ bN := by omega
    have neT_M : bT ≠ bM := by omega
    clear nzT_S nzT_I nzT_A nzT_E nzT_C nzT_N nzT_M
    refine (US.out _).mono ?_
    rintro e83 w83 ⟨rfl, hb83⟩
    replace HB := hT HB hb83
    replace KS := hK KS hb83
    replace KI := hK KI hb83
    replace KA := hK KA hb83
    replace KE := hK KE hb83
    replace KC := hK KC hb83
    replace KN := hK KN hb83
    replace KM := hK KM hb83
    replace KT := hK KT hb83
    clear hb83
    obtain ⟨yA_0, yA_1, yA_2, yA_3, yA_4, yA_5, yA_z, yA_f0, yA_f1, yA_f2, yA_f3, yA_f4, yA_f5⟩ := blf6 KA
    obtain ⟨yE_0, yE_1, yE_2, yE_3, yE_4, yE_5, yE_z, yE_f0, yE_f1, yE_f2, yE_f3, yE_f4, yE_f5⟩ := blf6 KE
    obtain ⟨yN_0, yN_1, yN_2, yN_3, yN_4, yN_5, yN_z⟩ := blk6 KN
    obtain ⟨yT_0, yT_1, yT_2, yT_3, yT_4, yT_5, yT_z, yT_f0, yT_f1, yT_f2, yT_f3, yT_f4, yT_f5⟩ := blf6 KT
    go_wp2_with fail
    have hs := st1 w83 bT 4 (.bool us)
    replace KS := oB hs KS (by omega)
    replace KI := oB hs KI (by omega)
    replace KA := oB hs KA (by omega)
    replace KE := oB hs KE (by omega)
    replace KC := oB hs KC (by omega)
    replace KN := oB hs KN (by omega)
    replace KM := oB hs KM (by omega)
    replace KT := Lib.hid (blk_set KT.out (j := 4) (by simp) (.bool us))
    replace HB := oH hs HB (by omega)
    clear hs
    clear yA_0 yA_1 yA_2 yA_3 yA_4 yA_5 yA_z yA_f0 yA_f1 yA_f2 yA_f3 yA_f4 yA_f5 yE_0 yE_1 yE_2 yE_3 yE_4 yE_5 yE_z yE_f0 yE_f1 yE_f2 yE_f3 yE_f4 yE_f5 yN_0 yN_1 yN_2 yN_3 yN_4 yN_5 yN_z yT_0 yT_1 yT_2 yT_3 yT_4 yT_5 yT_z yT_f0 yT_f1 yT_f2 yT_f3 yT_f4 yT_f5
    generalize w83.setCell ⟨bT, 4, none⟩ (.bool us) = w84 at *
    simp only [List.set] at KT
    obtain ⟨yA_0, yA_1, yA_2, yA_3, yA_4, yA_5, yA_z, yA_f0, yA_f1, yA_f2, yA_f3, yA_f4, yA_f5⟩ := blf6 KA
    obtain ⟨yE_0, yE_1, yE_2, yE_3, yE_4, yE_5, yE_z, yE_f0, yE_f1, yE_f2, yE_f3, yE_f4, yE_f5⟩ := blf6 KE
    obtain ⟨yN_0, yN_1, yN_2, yN_3, yN_4, yN_5, yN_z⟩ := blk6 KN
    obtain ⟨yT_0, yT_1, yT_2, yT_3, yT_4, yT_5, yT_z⟩ := blk6 KT
    go_region
    have hs := st6 w84 (w.heap.size + 1 + 1) 0 (.int .i64 dx) 1 (.int .i64 dy) 2 (.int .i64 d1) 3 (.int .i64 d2) 4 (.int .i64 tick) 5 (.int .i64 0)
    replace KS := oB hs KS (by omega)
    replace KI := oB hs KI (by omega)
    replace KA := Lib.hid (blk_set (blk_set (blk_set (blk_set (blk_set (blk_set KA.out (j := 0) (by simp) (.int .i64 dx)) (j := 1) (by simp) (.int .i64 dy)) (j := 2) (by simp) (.int .i64 d1)) (j := 3) (by simp) (.int .i64 d2)) (j := 4) (by simp) (.int .i64 tick)) (j := 5) (by simp) (.int .i64 0))
    replace KE := oB hs KE (by omega)
    replace KC := oB hs KC (by omega)
    replace KN := oB hs KN (by omega)
    replace KM := oB hs KM (by omega)
    replace KT := oB hs KT (by omega)
    replace HB := oH hs HB (by omega)
    clear hs
    clear yA_0 yA_1 yA_2 yA_3 yA_4 yA_5 yA_z yA_f0 yA_f1 yA_f2 yA_f3 yA_f4 yA_f5 yE_0 yE_1 yE_2 yE_3 yE_4 yE_5 yE_z yE_f0 yE_f1 yE_f2 yE_f3 yE_f4 yE_f5 yN_0 yN_1 yN_2 yN_3 yN_4 yN_5 yN_z yT_0 yT_1 yT_2 yT_3 yT_4 yT_5 yT_z
    simp only [List.set] at KA
    have hs := st6 ((((((w84.setCell ⟨(w.heap.size + 1 + 1), 0, none⟩ (.int .i64 dx)).setCell ⟨(w.heap.size + 1 + 1), 1, none⟩ (.int .i64 dy)).setCell ⟨(w.heap.size + 1 + 1), 2, none⟩ (.int .i64 d1)).setCell ⟨(w.heap.size + 1 + 1), 3, none⟩ (.int .i64 d2)).setCell ⟨(w.heap.size + 1 + 1), 4, none⟩ (.int .i64 tick)).setCell ⟨(w.heap.size + 1 + 1), 5, none⟩ (.int .i64 0)) (w.heap.size + 1 + 1 + 1) 0 (.int .i64 dx) 1 (.int .i64 dy) 2 (.int .i64 d1) 3 (.int .i64 d2) 4 (.bool us) 5 (.int .i64 k)
    replace KS := oB hs KS (by omega)
    replace KI := oB hs KI (by omega)
    replace KA := oB hs KA (by omega)
    replace KE := Lib.hid (blk_set (blk_set (blk_set (blk_set (blk_set (blk_set KE.out (j := 0) (by simp) (.int .i64 dx)) (j := 1) (by simp) (.int .i64 dy)) (j := 2) (by simp) (.int .i64 d1)) (j := 3) (by simp) (.int .i64 d2)) (j := 4) (by simp) (.bool us)) (j := 5) (by simp) (.int .i64 k))
    replace KC := oB hs KC (by omega)
    replace KN := oB hs KN (by omega)
    replace KM := oB hs KM (by omega)
    replace KT := oB hs KT (by omega)
    replace HB := oH hs HB (by omega)
    clear hs
    simp only [List.set] at KE
    replace KS := Lib.hid (blk_drew1 KS.out)
    replace KI := Lib.hid (blk_drew1 KI.out)
    replace KA := Lib.hid (blk_drew1 KA.out)
    replace KE := Lib.hid (blk_drew1 KE.out)
    replace KC := Lib.hid (blk_drew1 KC.out)
    replace KN := Lib.hid (blk_drew1 KN.out)
    replace KM := Lib.hid (blk_drew1 KM.out)
    replace KT := Lib.hid (blk_drew1 KT.out)
    replace HB := Lib.hid (below_drew1 HB.out)
    generalize (((((((((((((w84.setCell ⟨(w.heap.size + 1 + 1), 0, none⟩ (.int .i64 dx)).setCell ⟨(w.heap.size + 1 + 1), 1, none⟩ (.int .i64 dy)).setCell ⟨(w.heap.size + 1 + 1), 2, none⟩ (.int .i64 d1)).setCell ⟨(w.heap.size + 1 + 1), 3, none⟩ (.int .i64 d2)).setCell ⟨(w.heap.size + 1 + 1), 4, none⟩ (.int .i64 tick)).setCell ⟨(w.heap.size + 1 + 1), 5, none⟩ (.int .i64 0)).setCell ⟨(w.heap.size + 1 + 1 + 1), 0, none⟩ (.int .i64 dx)).setCell ⟨(w.heap.size + 1 + 1 + 1), 1, none⟩ (.int .i64 dy)).setCell ⟨(w.heap.size + 1 + 1 + 1), 2, none⟩ (.int .i64 d1)).setCell ⟨(w.heap.size + 1 + 1 + 1), 3, none⟩ (.int .i64 d2)).setCell ⟨(w.heap.size + 1 + 1 + 1), 4, none⟩ (.bool us)).setCell ⟨(w.heap.size + 1 + 1 + 1), 5, none⟩ (.int .i64 k))).drew = w87 at *
    obtain ⟨yA_0, yA_1, yA_2, yA_3, yA_4, yA_5, yA_z⟩ := blk6 KA
    obtain ⟨yE_0, yE_1, yE_2, yE_3, yE_4, yE_5, yE_z⟩ := blk6 KE
    go_wp2
    refine bodyPost_ret (v := .tuple #[.agg #[.int .i64 dx, .int .i64 dy, .int .i64 d1, .int .i64 d2, .int .i64 tick, .int .i64 0], .agg #[.int .i64 dx, .int .i64 dy, .int .i64 d1, .int .i64 d2, .bool us, .int .i64 k], .int .i64 0]) (by simp [results, Tryz.results17, go_sem, yA_0, yA_1, yA_2, yA_3, yA_4, yA_5, yE_0, yE_1, yE_2, yE_3, yE_4, yE_5]) rfl ⟨by rw [EV.out, EU.out], HB.out⟩
end Go.Proofs.YtajmjkliblippaaGreatDoor
