/-
  Walks and laws of the layers below, gathered from several texts.
-/
import Derived.Test.YtidelghgjibndaaGreatSnMovesPlain
import Derived.Lib.Hide
import Derived.WalkKit
import Derived.WalkSpells
import Derived.IntWalk
import Derived.BigQuiet
import Derived.Deep.QuietTactic
import Derived.Deep.Cut
import Derived.Deep.RegionHeld3
import Derived.Test.YtidelghgjibndaaGreatRefDivPlain
import Derived.Test.YtidelghgjibndaaGreatShelf
import Derived.LoopTactic
import Derived.Laws.Bits64b
import Derived.Laws.Bits64
import Derived.Test.YtidelghgjibndaaGreatFixPlain
import Derived.Test.YtidelghgjibndaaGreatTE1
namespace Go.Proofs.YtidelghgjibndaaGreat
set_option linter.unusedVariables false
/-- neighbours on the path are near enough, all its points valid -/
structure SlowP (P : List Pt) (sp : Int) : Prop where
  ne : 0 < P.length
  val : ∀ i, i < P.length → S41.pvB (nthP P i).x (nthP P i).y = true
  step : ∀ i, i + 1 < P.length → ((nthP P (i + 1)).x - (nthP P i).x) * ((nthP P (i + 1)).x - (nthP P i).x) + ((nthP P (i + 1)).y - (nthP P i).y) * ((nthP P (i + 1)).y - (nthP P i).y) ≤ sp * sp
theorem slow_far {P : List Pt} {sp : Int} (h : SlowP P sp) (h0 : 0 ≤ sp) : ∀ k : Nat, k < P.length → S41.d2 (nthP P k).x (nthP P k).y (nthP P 0).x (nthP P 0).y ≤ (sp * k) * (sp * k)
  | 0, _ => by unfold S41.d2; simp
  | k + 1, hk => by
    have ih := slow_far h h0 k (by omega)
    have st := h.step k hk
    unfold S41.d2 at *
    generalize nthP P (k + 1) = a at *
    generalize nthP P k = b at *
    generalize nthP P 0 = c at *
    have h1 : (b.x - a.x) * (b.x - a.x) + (b.y - a.y) * (b.y - a.y) ≤ sp * sp := by
      rw [show b.x - a.x = -(a.x - b.x) by omega, show b.y - a.y = -(a.y - b.y) by omega, Int.neg_mul_neg, Int.neg_mul_neg]
      exact st
    have := S41.tri_le (H := sp * k) (m := sp) (Int.mul_nonneg h0 (by omega)) h0 ih h1
    rw [show c.x - b.x + (b.x - a.x) = c.x - a.x by omega, show c.y - b.y + (b.y - a.y) = c.y - a.y by omega] at this
    rw [show sp * ((k + 1 : Nat) : Int) = sp * k + sp by rw [Int.natCast_add, Int.mul_add]; simp]
    exact this
def agedN (r : Rp) (tick speed : Int) : Rp × Int := (⟨(S41.agedF r.s r.k r.x r.y r.v r.b r.wt r.t tick speed).1.s, (S41.agedF r.s r.k r.x r.y r.v r.b r.wt r.t tick speed).1.k, (S41.agedF r.s r.k r.x r.y r.v r.b r.wt r.t tick speed).1.x, (S41.agedF r.s r.k r.x r.y r.v r.b r.wt r.t tick speed).1.y, (S41.agedF r.s r.k r.x r.y r.v r.b r.wt r.t tick speed).1.v, (S41.agedF r.s r.k r.x r.y r.v r.b r.wt r.t tick speed).1.b, (S41.agedF r.s r.k r.x r.y r.v r.b r.wt r.t tick speed).1.w, (S41.agedF r.s r.k r.x r.y r.v r.b r.wt r.t tick speed).1.t⟩, (S41.agedF r.s r.k r.x r.y r.v r.b r.wt r.t tick speed).2)
theorem agedN_good {r : Rp} {tick speed : Int} (h : (agedN r tick speed).2 = 0) : ∃ q : S41.Rp, S41.agedF r.s r.k r.x r.y r.v r.b r.wt r.t tick speed = (q, 0) ∧ (agedN r tick speed).1 = ⟨q.s, q.k, q.x, q.y, q.v, q.b, q.w, q.t⟩ := by
  unfold agedN at *
  obtain ⟨q, e⟩ : ∃ q, S41.agedF r.s r.k r.x r.y r.v r.b r.wt r.t tick speed = q := ⟨_, rfl⟩
  rw [e] at h ⊢
  obtain ⟨q, z⟩ := q
  simp only at h
  subst h
  exact ⟨q, rfl, rfl⟩
theorem agedN_src {r : Rp} {tick speed : Int} (h : (agedN r tick speed).2 = 0) : (agedN r tick speed).1.s = r.s ∧ (0 ≤ tick - r.t ∧ tick - r.t ≤ 20) ∧ 0 ≤ speed := by
  obtain ⟨q, e, e2⟩ := agedN_good h
  obtain ⟨_, _, hs, hg, _, _, hq⟩ := S41.aged_ok e
  rw [e2, hq]
  exact ⟨rfl, hg, hs.1⟩
theorem agedN_kind {r : Rp} {tick speed : Int} (k0 : 0 ≤ r.k) (k1 : r.k ≤ 255) : 0 ≤ (agedN r tick speed).1.k ∧ (agedN r tick speed).1.k ≤ 255 := by
  by_cases h : (agedN r tick speed).2 = 0
  · obtain ⟨q, e, e2⟩ := agedN_good h
    obtain ⟨_, _, _, _, _, _, hq⟩ := S41.aged_ok e
    rw [e2, hq]
    exact ⟨k0, k1⟩
  · have e := S41.aged_no (show (S41.agedF r.s r.k r.x r.y r.v r.b r.wt r.t tick speed).2 ≠ 0 from h)
    unfold agedN
    simp only
    rw [e]
    unfold S41.rp0
    simp
/-- an aged report of an honest source holds at the path's first point -/
theorem aged_cert {P : List Pt} {sp tick : Int} {r : Rp} {cx cy bx b2 : Int} {k : Nat} (hs : SlowP P sp) (hi : inN cx cy bx b2 (nthP P 0).x (nthP P 0).y = true)
    (h0 : (agedN r tick sp).2 = 0) (h1 : (rowsN (agedN r tick sp).1 cx cy bx b2).2 = 0) (hk : (k : Int) = tick - r.t) (hkl : k < P.length) (ha : agN r (nthP P k).x (nthP P k).y = true) :
    ∀ m ∈ (rowsN (agedN r tick sp).1 cx cy bx b2).1, HoldP m (nthP P 0).x (nthP P 0).y := by
  have hsp := (agedN_src h0).2.2
  have fa := slow_far hs hsp k hkl
  obtain ⟨q, e, e2⟩ := agedN_good h0
  rw [e2] at h1 ⊢
  rw [hk] at fa
  exact rowsN_cert h1 (S41.moves e ha (hs.val 0 hs.ne) fa) hi
/-- what the rows of some reports are worth -/
structure NvI (fa px py : Int) (ms : List Ms) (hb : Bool) : Prop where
  src : ∀ m ∈ ms, 1 ≤ m.s
  ok : hb = true → ∀ m ∈ ms, m.s ≠ fa → HoldP m px py
theorem nv_nil (fa px py : Int) : NvI fa px py [] true := ⟨fun m hm => absurd hm (by simp), fun _ m hm => absurd hm (by simp)⟩
theorem nv_lie {fa px py : Int} {ms : List Ms} {hb : Bool} {tick sp : Int} {r : Rp} {cx cy bx b2 : Int} (h : NvI fa px py ms hb) (h1 : (rowsN (agedN r tick sp).1 cx cy bx b2).2 = 0) : NvI fa px py (ms ++ (rowsN (agedN r tick sp).1 cx cy bx b2).1) false := by
  obtain ⟨s0, s1⟩ := rowsN_src h1
  refine ⟨fun m hm => ?_, fun q => absurd q (by simp)⟩
  rcases List.mem_append.1 hm with a | a
  · exact h.src m a
  · rw [s1 m a]; exact s0
theorem nv_own {px py : Int} {ms : List Ms} {hb : Bool} {tick sp : Int} {r : Rp} {cx cy bx b2 : Int} (h : NvI r.s px py ms hb) (h0 : (agedN r tick sp).2 = 0) (h1 : (rowsN (agedN r tick sp).1 cx cy bx b2).2 = 0) : NvI r.s px py (ms ++ (rowsN (agedN r tick sp).1 cx cy bx b2).1) hb := by
  obtain ⟨s0, s1⟩ := rowsN_src h1
  have e := (agedN_src h0).1
  refine ⟨fun m hm => ?_, fun q m hm hs => ?_⟩
  · rcases List.mem_append.1 hm with a | a
    · exact h.src m a
    · rw [s1 m a]; exact s0
  · rcases List.mem_append.1 hm with a | a
    · exact h.ok q m a hs
    · exact absurd ((s1 m a).trans e) hs
theorem nv_true {fa : Int} {ms : List Ms} {hb : Bool} {P : List Pt} {tick sp : Int} {r : Rp} {cx cy bx b2 : Int} {k : Nat} (h : NvI fa (nthP P 0).x (nthP P 0).y ms hb) (hs : SlowP P sp) (hi : inN cx cy bx b2 (nthP P 0).x (nthP P 0).y = true)
    (h0 : (agedN r tick sp).2 = 0) (h1 : (rowsN (agedN r tick sp).1 cx cy bx b2).2 = 0) (hk : (k : Int) = tick - r.t) (hkl : k < P.length) (ha : agN r (nthP P k).x (nthP P k).y = true) :
    NvI fa (nthP P 0).x (nthP P 0).y (ms ++ (rowsN (agedN r tick sp).1 cx cy bx b2).1) hb := by
  obtain ⟨s0, s1⟩ := rowsN_src h1
  have ce := aged_cert hs hi h0 h1 hk hkl ha
  refine ⟨fun m hm => ?_, fun q m hm hs => ?_⟩
  · rcases List.mem_append.1 hm with a | a
    · exact h.src m a
    · rw [s1 m a]; exact s0
  · rcases List.mem_append.1 hm with a | a
    · exact h.ok q m a hs
    · exact ce m a
end Go.Proofs.YtidelghgjibndaaGreat
namespace Go.Proofs.YtidelghgjibndaaGreat
set_option linter.unusedVariables false
structure Bx4 where
  cx : Int
  cy : Int
  x : Int
  y : Int
/-- the point stays in the box -/
def inB (b : Bx4) (px py : Int) : Prop := (px - b.cx ≤ b.x ∧ b.cx - px ≤ b.x) ∧ py - b.cy ≤ b.y ∧ b.cy - py ≤ b.y
end Go.Proofs.YtidelghgjibndaaGreat
namespace Go.Proofs.YtidelghgjibndaaGreat
set_option linter.unusedVariables false
open Go.RowKit
/-- the cells of block b hold these values, and may be written -/
structure Blk (vs : List Value) (b : Nat) (W : World) : Prop where
  lt : b < W.heap.size
  c : ∀ i v, vs[i]? = some v → W.cell? ⟨b, i, none⟩ = some v
  f : ∀ i v, vs[i]? = some v → W.frozen? ⟨b, i, none⟩ = false
theorem Blk.below {vs : List Value} {b : Nat} {W w' : World} (h : Blk vs b W) (hb : Below W.heap.size W w') : Blk vs b w' :=
  ⟨Nat.lt_of_lt_of_le h.lt hb.size, fun i v e => (hb.cell (p := ⟨b, i, none⟩) h.lt).trans (h.c i v e), fun i v e => (hb.frozen (p := ⟨b, i, none⟩) h.lt).trans (h.f i v e)⟩
theorem Blk.same {vs : List Value} {b : Nat} {W w' : World} (h : Blk vs b W) (hk : w'.heap[b]? = W.heap[b]?) (hs : W.heap.size ≤ w'.heap.size) : Blk vs b w' :=
  ⟨Nat.lt_of_lt_of_le h.lt hs, fun i v e => (World.cell?_of_block (w := W) (a := ⟨b, i, none⟩) hk).trans (h.c i v e), fun i v e => (World.frozen?_of_block (w := W) (a := ⟨b, i, none⟩) hk).trans (h.f i v e)⟩
theorem Blk.alloc {vs : List Value} {b : Nat} {W : World} (h : Blk vs b W) (o : Obj) : Blk vs b (W.alloc o) := h.below ((Below.refl _ _).alloc (Nat.le_refl _) o)
theorem Blk.new (vs : Array Value) (w : World) (t : TypeId) : Blk vs.toList w.heap.size (w.alloc (.cells vs t)) :=
  ⟨by simp, fun i v e => by
      rw [World.cell?_alloc_at _ _ _ _ rfl]
      simpa using e, fun i v e => by go_simp⟩
theorem Blk.of {vs : Array Value} {b : Nat} {w : World} {t : TypeId} (e : b = w.heap.size) : Blk vs.toList b (w.alloc (.cells vs t)) := by subst e; exact Blk.new vs w t
theorem blk_other {vs : List Value} {b n j : Nat} {W : World} (h : Blk vs b W) (hn : n ≠ b) (u : Value) : Blk vs b (W.setCell ⟨n, j, none⟩ u) :=
  h.same (Below.heap_setCell _ _ _ _ (Ne.symm hn)) (by simp [World.setCell])
theorem blk_set {vs : List Value} {b j : Nat} {W : World} (h : Blk vs b W) (hj : j < vs.length) (u : Value) : Blk (vs.set j u) b (W.setCell ⟨b, j, none⟩ u) := by
  refine ⟨by have := h.lt; simpa [World.setCell] using this, fun i v e => ?_, fun i v e => ?_⟩
  · by_cases q : i = j
    · subst q
      rw [List.getElem?_set_self hj] at e
      cases e
      exact World.cell?_setCell_same' W _ _ (by rw [h.c i _ (List.getElem?_eq_getElem hj)]; rfl)
    · rw [List.getElem?_set_ne (fun e => q e.symm)] at e
      rw [World.cell?_setCell_other]
      · exact h.c i v e
      · intro e'; injection e' with _ e' _; exact q e'.symm
  · rw [World.frozen?_setCell]
    by_cases q : i = j
    · subst q
      exact h.f i _ (List.getElem?_eq_getElem hj)
    · rw [List.getElem?_set_ne (fun e => q e.symm)] at e
      exact h.f i v e
/-- a new block of a region whose order is drawn: laid before a call, kept by later ones, written at last -/
theorem kv_new {w W w9 : World} {vs : Array Value} {t : TypeId} (h : Below w.heap.size w W) (hc : Below (W.alloc (.cells vs t)).heap.size (W.alloc (.cells vs t)) w9) :
    w.heap.size ≤ W.heap.size ∧ Blk vs.toList W.heap.size w9 := ⟨h.size, (Blk.new vs W t).below hc⟩
theorem kv_old {w W w9 : World} {vs : List Value} {b : Nat} (h : w.heap.size ≤ b ∧ Blk vs b W) (hc : Below W.heap.size W w9) : w.heap.size ≤ b ∧ Blk vs b w9 := ⟨h.1, h.2.below hc⟩
theorem far2 {m b c : Nat} {W : World} (h : m ≤ c) (hb : b < m) (u v : Value) (i : Nat) : ((W.setCell ⟨c, 0, none⟩ u).setCell ⟨c, 1, none⟩ v).cell? ⟨b, i, none⟩ = W.cell? ⟨b, i, none⟩ :=
  have hne : c ≠ b := by omega
  (World.cell?_setCell_far _ _ _ _ hne).trans (World.cell?_setCell_far _ _ _ _ hne)
theorem below_drew_alloc (w : World) (o : Obj) : Below w.heap.size w (w.alloc o).drew :=
  have h := (Below.refl w.heap.size w).alloc (Nat.le_refl _) o
  ⟨h.os, h.tape, h.output, h.size, h.block⟩
theorem kv_drew {w w9 : World} {vs : Array Value} {t : TypeId} (hc : Below (w.alloc (.cells vs t)).drew.heap.size (w.alloc (.cells vs t)).drew w9) :
    w.heap.size ≤ w.heap.size ∧ Blk vs.toList w.heap.size w9 :=
  ⟨Nat.le_refl _, ((Blk.new vs w t).same (w' := (w.alloc (.cells vs t)).drew) rfl (Nat.le_refl _)).below hc⟩
end Go.Proofs.YtidelghgjibndaaGreat
namespace Go.Proofs.YtidelghgjibndaaGreat
set_option linter.unusedVariables false
theorem mulb {x y X Y : Int} (hX : 0 ≤ X) (hx0 : -X ≤ x) (hx : x ≤ X) (hy0 : -Y ≤ y) (hy : y ≤ Y) : -(X * Y) ≤ x * y ∧ x * y ≤ X * Y := by
  have hY : 0 ≤ Y := by omega
  rcases Int.le_total 0 x with h | h
  · have a := Int.mul_le_mul_of_nonneg_left hy0 h
    have b := Int.mul_le_mul_of_nonneg_left hy h
    have c := Int.mul_le_mul_of_nonneg_right hx hY
    have e : x * -Y = -(x * Y) := by grind
    omega
  · have a := Int.mul_le_mul_of_nonneg_left hy0 (show 0 ≤ -x by omega)
    have b := Int.mul_le_mul_of_nonneg_left hy (show 0 ≤ -x by omega)
    have c := Int.mul_le_mul_of_nonneg_right (show -x ≤ X by omega) hY
    have e1 : -x * -Y = x * Y := by grind
    have e2 : -x * y = -(x * y) := by grind
    have e3 : -x * Y = -(x * Y) := by grind
    omega
/-- valid measurements, at most 16 -/
structure OkL (l : List Ms) : Prop where
  len : l.length ≤ 16
  ok : ∀ m ∈ l, OkM m
theorem okL_of {l : List Ms} (h : chkL l = 0) : OkL l := ⟨(chkL_ok h).1, (chkL_ok h).2⟩
theorem OkL.take {l : List Ms} (h : OkL l) (k : Nat) : OkL (l.take k) := ⟨by rw [List.length_take]; have := h.len; omega, fun m hm => h.ok m (List.mem_of_mem_take hm)⟩
theorem OkL.wo {l : List Ms} (h : OkL l) (k : Int) : OkL (woL l k) := ⟨Nat.le_trans (woL_len _ _) h.len, fun m hm => h.ok m (List.mem_filter.1 hm).1⟩
theorem OkL.sum {l : List Ms} (h : OkL l) (f : Ms → Int) (B : Int) (hB : 0 ≤ B) (hf : ∀ m ∈ l, -B ≤ f m ∧ f m ≤ B) : -(16 * B) ≤ sumL f l ∧ sumL f l ≤ 16 * B := by
  have s := sum_bd f B l hf
  have e := Int.mul_le_mul_of_nonneg_right (show (l.length : Int) ≤ 16 by have := h.len; omega) hB
  omega
theorem term2 {w a b A B : Int} (hA : 0 ≤ A) (w0 : 1 ≤ w) (w1 : w ≤ 16) (a0 : -A ≤ a) (a1 : a ≤ A) (b0 : -B ≤ b) (b1 : b ≤ B) : -(16 * A * B) ≤ w * a * b ∧ w * a * b ≤ 16 * A * B := by
  obtain ⟨h1, h2⟩ := mulb (X := 16) (Y := A) (by omega) (show -16 ≤ w by omega) w1 a0 a1
  exact mulb (by omega) h1 h2 b0 b1
structure NrmB (l : List Ms) : Prop where
  xx : -16777216 ≤ nXX l ∧ nXX l ≤ 16777216
  xy : -16777216 ≤ nXY l ∧ nXY l ≤ 16777216
  yy : -16777216 ≤ nYY l ∧ nYY l ≤ 16777216
  xz : -281474976710656 ≤ nXZ l ∧ nXZ l ≤ 281474976710656
  yz : -281474976710656 ≤ nYZ l ∧ nYZ l ≤ 281474976710656
theorem nrm_bd {l : List Ms} (h : OkL l) : NrmB l := by
  have t1 : ∀ m ∈ l, -1048576 ≤ m.w * m.a * m.a ∧ m.w * m.a * m.a ≤ 1048576 := fun m hm => by
    have o := h.ok m hm
    have := term2 (A := 256) (B := 256) (by omega) o.w0 o.w1 o.a0 o.a1 o.a0 o.a1
    omega
  have t2 : ∀ m ∈ l, -1048576 ≤ m.w * m.a * m.b ∧ m.w * m.a * m.b ≤ 1048576 := fun m hm => by
    have o := h.ok m hm
    have := term2 (A := 256) (B := 256) (by omega) o.w0 o.w1 o.a0 o.a1 o.b0 o.b1
    omega
  have t3 : ∀ m ∈ l, -1048576 ≤ m.w * m.b * m.b ∧ m.w * m.b * m.b ≤ 1048576 := fun m hm => by
    have o := h.ok m hm
    have := term2 (A := 256) (B := 256) (by omega) o.w0 o.w1 o.b0 o.b1 o.b0 o.b1
    omega
  have t4 : ∀ m ∈ l, -17592186044416 ≤ m.w * m.a * m.z ∧ m.w * m.a * m.z ≤ 17592186044416 := fun m hm => by
    have o := h.ok m hm
    have := term2 (A := 256) (B := 4294967296) (by omega) o.w0 o.w1 o.a0 o.a1 o.z0 o.z1
    omega
  have t5 : ∀ m ∈ l, -17592186044416 ≤ m.w * m.b * m.z ∧ m.w * m.b * m.z ≤ 17592186044416 := fun m hm => by
    have o := h.ok m hm
    have := term2 (A := 256) (B := 4294967296) (by omega) o.w0 o.w1 o.b0 o.b1 o.z0 o.z1
    omega
  have s1 := h.sum _ _ (by omega) t1
  have s2 := h.sum _ _ (by omega) t2
  have s3 := h.sum _ _ (by omega) t3
  have s4 := h.sum _ _ (by omega) t4
  have s5 := h.sum _ _ (by omega) t5
  exact ⟨by unfold nXX; omega, by unfold nXY; omega, by unfold nYY; omega, by unfold nXZ; omega, by unfold nYZ; omega⟩
structure SolB (l : List Ms) : Prop where
  det : -562949953421312 ≤ detN l ∧ detN l ≤ 562949953421312
  x : -9444732965739290427392 ≤ solX l ∧ solX l ≤ 9444732965739290427392
  y : -9444732965739290427392 ≤ solY l ∧ solY l ≤ 9444732965739290427392
theorem sol_bd {l : List Ms} (h : NrmB l) : SolB l := by
  obtain ⟨⟨a0, a1⟩, ⟨b0, b1⟩, ⟨c0, c1⟩, ⟨d0, d1⟩, ⟨e0, e1⟩⟩ := h
  have p1 := mulb (X := 16777216) (Y := 16777216) (by omega) a0 a1 c0 c1
  have p2 := mulb (X := 16777216) (Y := 16777216) (by omega) b0 b1 b0 b1
  have p3 := mulb (X := 16777216) (Y := 281474976710656) (by omega) c0 c1 d0 d1
  have p4 := mulb (X := 16777216) (Y := 281474976710656) (by omega) b0 b1 e0 e1
  have p5 := mulb (X := 16777216) (Y := 281474976710656) (by omega) a0 a1 e0 e1
  have p6 := mulb (X := 16777216) (Y := 281474976710656) (by omega) b0 b1 d0 d1
  exact ⟨by unfold detN; omega, by unfold solX; omega, by unfold solY; omega⟩
theorem absZ_le {x B : Int} (h0 : -B ≤ x) (h1 : x ≤ B) : absZ x ≤ B := by unfold absZ; split <;> omega
theorem absZ_ge (x : Int) : 0 ≤ absZ x := by unfold absZ; split <;> omega
/-- the noise of each measurement, with the coefficients u and v -/
theorem noi_term {m : Ms} (o : OkM m) {u v a b : Int} (hu0 : -16777216 ≤ u) (hu : u ≤ 16777216) (hv0 : -16777216 ≤ v) (hv : v ≤ 16777216) (ha0 : -256 ≤ a) (ha : a ≤ 256) (hb0 : -256 ≤ b) (hb : b ≤ 256) :
    0 ≤ absZ (u * a - v * b) ∧ absZ (u * a - v * b) ≤ 8589934592 ∧ 0 ≤ m.w * absZ (u * a - v * b) ∧ m.w * absZ (u * a - v * b) ≤ 137438953472 ∧ 0 ≤ m.w * absZ (u * a - v * b) * m.d ∧ m.w * absZ (u * a - v * b) * m.d ≤ 590295810358705651712 := by
  have p1 := mulb (X := 16777216) (Y := 256) (by omega) hu0 hu ha0 ha
  have p2 := mulb (X := 16777216) (Y := 256) (by omega) hv0 hv hb0 hb
  have l1 : absZ (u * a - v * b) ≤ 8589934592 := absZ_le (by omega) (by omega)
  have l0 := absZ_ge (u * a - v * b)
  generalize absZ (u * a - v * b) = c at *
  have w0 := o.w0
  have w1 := o.w1
  have d0 := o.d0
  have d1 := o.d1
  have q0 := Int.mul_nonneg (show 0 ≤ m.w by omega) l0
  have q1 := (mulb (X := 16) (Y := 8589934592) (x := m.w) (y := c) (by omega) (by omega) w1 (by omega) l1).2
  have r0 := Int.mul_nonneg q0 d0
  have r1 := (mulb (X := 137438953472) (Y := 4294967296) (x := m.w * c) (y := m.d) (by omega) (by omega) (by omega) (by omega) d1).2
  exact ⟨l0, l1, q0, by omega, r0, by omega⟩
end Go.Proofs.YtidelghgjibndaaGreat
namespace Go.Proofs.YtidelghgjibndaaGreat
set_option linter.unusedVariables false
/-- the words of a number -/
def hiW (x : Int) : Int := x / 18446744073709551616
def loW (x : Int) : Int := x % 18446744073709551616
structure FitW (x : Int) : Prop where
  lo : -170141183460469231731687303715884105728 ≤ x
  hi : x < 170141183460469231731687303715884105728
theorem lo_rng (x : Int) : 0 ≤ loW x ∧ loW x < 18446744073709551616 := by unfold loW; omega
theorem hi_rng {x : Int} (h : FitW x) : -9223372036854775808 ≤ hiW x ∧ hiW x < 9223372036854775808 := by
  obtain ⟨a, b⟩ := h
  unfold hiW; omega
theorem hi_neg (x : Int) : (hiW x < 0) ↔ x < 0 := by unfold hiW; omega
def absW (x : Int) : Int := if x < 0 then -x else x
theorem absW_nonneg (x : Int) : 0 ≤ absW x := by unfold absW; split <;> omega
theorem absW_mul (a b : Int) : a * b = if decide (a < 0) != decide (b < 0) then -(absW a * absW b) else absW a * absW b := by
  unfold absW
  by_cases ha : a < 0 <;> by_cases hb : b < 0 <;> simp [ha, hb, Int.neg_mul, Int.mul_neg]
theorem mul_u {x y : Int} (hx0 : 0 ≤ x) (hx : x ≤ 9223372036854775808) (hy0 : 0 ≤ y) (hy : y ≤ 9223372036854775808) : 0 ≤ x * y ∧ x * y ≤ 85070591730234615865843651857942052864 := by
  refine ⟨Int.mul_nonneg hx0 hy0, ?_⟩
  have h1 := Int.mul_le_mul_of_nonneg_right hx hy0
  have h2 := Int.mul_le_mul_of_nonneg_left hy (show (0 : Int) ≤ 9223372036854775808 by omega)
  omega
theorem mul_fit {a b : Int} (ha0 : -9223372036854775808 ≤ a) (ha : a ≤ 9223372036854775807) (hb0 : -9223372036854775808 ≤ b) (hb : b ≤ 9223372036854775807) : FitW (a * b) := by
  have h := mul_u (absW_nonneg a) (show absW a ≤ 9223372036854775808 by unfold absW; split <;> omega) (absW_nonneg b) (show absW b ≤ 9223372036854775808 by unfold absW; split <;> omega)
  rw [absW_mul]
  refine ⟨?_, ?_⟩ <;> split <;> omega
/-- one bit more -/
theorem div_one {M b D : Nat} (hb : b < 2) (hD : 0 < D) (h : D ≤ 2 * (M % D) + b) : (2 * M + b) / D = 2 * (M / D) + 1 ∧ (2 * M + b) % D = 2 * (M % D) + b - D := by
  have hr := Nat.mod_lt M hD
  have hM := Nat.div_add_mod M D
  generalize M / D = q at *
  generalize M % D = r at *
  subst hM
  have e : 2 * (D * q + r) + b = D * (2 * q + 1) + (2 * r + b - D) := by
    rw [Nat.mul_add D, Nat.mul_left_comm D 2 q]; omega
  rw [e, Nat.mul_add_div hD, Nat.div_eq_of_lt (by omega), Nat.mul_add_mod, Nat.mod_eq_of_lt (by omega)]
  exact ⟨rfl, rfl⟩
theorem div_zero {M b D : Nat} (hb : b < 2) (hD : 0 < D) (h : ¬ D ≤ 2 * (M % D) + b) : (2 * M + b) / D = 2 * (M / D) ∧ (2 * M + b) % D = 2 * (M % D) + b := by
  have hM := Nat.div_add_mod M D
  generalize M / D = q at *
  generalize M % D = r at *
  subst hM
  have e : 2 * (D * q + r) + b = D * (2 * q) + (2 * r + b) := by
    rw [Nat.mul_left_comm D 2 q]; omega
  rw [e, Nat.mul_add_div hD, Nat.div_eq_of_lt (by omega), Nat.mul_add_mod, Nat.mod_eq_of_lt (by omega)]
  exact ⟨rfl, rfl⟩
theorem bit_at (N i : Nat) : N / 2 ^ i = 2 * (N / 2 ^ (i + 1)) + N / 2 ^ i % 2 := by
  have e : N / 2 ^ (i + 1) = N / 2 ^ i / 2 := by rw [Nat.pow_succ, Nat.div_div_eq_div_mul]
  rw [e]
  omega
theorem bit_lo {N i : Nat} (h : i < 64) : N % 18446744073709551616 / 2 ^ i % 2 = N / 2 ^ i % 2 := by
  have e : (18446744073709551616 : Nat) = 2 ^ i * 2 ^ (64 - i) := by
    rw [← Nat.pow_add, show i + (64 - i) = 64 by omega]
  rw [e, Nat.mod_mul_right_div_self, Nat.mod_mod_of_dvd]
  exact ⟨2 ^ (63 - i), by rw [Nat.mul_comm, ← Nat.pow_succ, show 64 - i = 63 - i + 1 by omega]⟩
theorem bit_hi {N i : Nat} (h : 64 ≤ i) : N / 18446744073709551616 / 2 ^ (i - 64) % 2 = N / 2 ^ i % 2 := by
  have e : (2 : Nat) ^ i = 18446744073709551616 * 2 ^ (i - 64) := by
    rw [show (18446744073709551616 : Nat) = 2 ^ 64 by decide, ← Nat.pow_add, show 64 + (i - 64) = i by omega]
  rw [e, Nat.div_div_eq_div_mul]
/-- what the bits above i leave -/
theorem top_small {N i : Nat} (h : N < 340282366920938463463374607431768211456) : N / 2 ^ (i + 1) < 170141183460469231731687303715884105728 := by
  have e : N / 2 ^ (i + 1) = N / 2 / 2 ^ i := by rw [Nat.pow_succ, Nat.mul_comm, Nat.div_div_eq_div_mul]
  have := Nat.div_le_self (N / 2) (2 ^ i)
  omega
end Go.Proofs.YtidelghgjibndaaGreat
namespace Go.Proofs.YtidelghgjibndaaGreat
set_option linter.unusedVariables false
open Go.RowKit
theorem bset2 {B n : Nat} {w w1 : World} (h : Below B w w1) (hB : B ≤ n) (u v : Value) : Below B w ((w1.setCell ⟨n, 0, none⟩ u).setCell ⟨n, 1, none⟩ v) :=
  (h.setCell (p := ⟨n, 0, none⟩) hB u).setCell (p := ⟨n, 1, none⟩) hB v
theorem ret_iw {k : IntKind} {a b : Int} (h : a = b) : Ending.returned (.int k a) = .returned (.int k b) := by rw [h]
/-- the value of a number of 128 bits -/
def wv (x : Int) : Value := .agg #[.int .i64 (hiW x), .int .u64 (loW x)]
theorem add64 (x y c : Int) (hx : 0 ≤ x) (hy : 0 ≤ y) (hc0 : 0 ≤ c) (hc : c ≤ 1) (w : World) : (callFunc 116 #[.int .u64 x, .int .u64 y, .int .u64 c]).run Tryz.prog w =
    .ok (.value (.tuple #[.int .u64 ((x + y + c) % 18446744073709551616), .int .u64 ((x + y + c) / 18446744073709551616)])) w := by
  obtain ⟨x, rfl⟩ := Int.eq_ofNat_of_zero_le hx
  obtain ⟨y, rfl⟩ := Int.eq_ofNat_of_zero_le hy
  obtain ⟨c, rfl⟩ := Int.eq_ofNat_of_zero_le hc0
  refine (Tryz.bits_Add64 x y c (by omega) w).trans ?_
  congr 5 <;> omega
/-- the borrow -/
def bor (x y b : Int) : Int := if x < y + b then 1 else 0
theorem bor_rng (x y b : Int) : 0 ≤ bor x y b ∧ bor x y b ≤ 1 := by unfold bor; split <;> omega
theorem sub64 (x y b : Int) (hx : 0 ≤ x) (hy : 0 ≤ y) (hy' : y < 18446744073709551616) (hb0 : 0 ≤ b) (hb : b ≤ 1) (w : World) : (callFunc 104 #[.int .u64 x, .int .u64 y, .int .u64 b]).run Tryz.prog w =
    .ok (.value (.tuple #[.int .u64 ((x - y - b) % 18446744073709551616), .int .u64 (bor x y b)])) w := by
  unfold bor
  obtain ⟨x, rfl⟩ := Int.eq_ofNat_of_zero_le hx
  obtain ⟨y, rfl⟩ := Int.eq_ofNat_of_zero_le hy
  obtain ⟨b, rfl⟩ := Int.eq_ofNat_of_zero_le hb0
  have e1 : (((x + 18446744073709551616 - y - b) % 18446744073709551616 : Nat) : Int) = ((x : Int) - y - b) % 18446744073709551616 := by omega
  have e2 : ((if x < y + b then 1 else 0 : Nat) : Int) = if (x : Int) < y + b then 1 else 0 := by split <;> split <;> omega
  rw [← e1, ← e2]
  exact Tryz.bits_Sub64 x y b (by omega) w
theorem wabs_any (a : Int) (w : World) (h0 : -9223372036854775808 ≤ a) (h1 : a ≤ 9223372036854775807) :
    Calls Tryz.prog 90 #[.int .i64 a] w fun e w' => e = .returned (.int .u64 (absW a)) ∧ w = w' := by
  by_cases h : a < 0
  · have g : decide (a < 0) = true := by simpa using h
    go_enter Tryz.func90, Tryz.ntmps90
    go_wp2
    go_ret
    refine ⟨ret_iw ?_, rfl⟩
    unfold absW
    rw [if_pos (by omega)]
    simp only [IntKind.wrap_u64]
    omega
  · have g : decide (a < 0) = false := by simpa using h
    go_enter Tryz.func90, Tryz.ntmps90
    go_wp2
    go_ret
    refine ⟨ret_iw ?_, rfl⟩
    unfold absW
    rw [if_neg (by omega)]
theorem mul64_int (x y : Int) (hx0 : 0 ≤ x) (hx : x < 18446744073709551616) (hy0 : 0 ≤ y) (hy : y < 18446744073709551616) (w : World) :
    Calls Tryz.prog 89 #[.int .u64 x, .int .u64 y] w fun e w' => e = .returned (.tuple #[.int .u64 (hiW (x * y)), .int .u64 (loW (x * y))]) ∧ w = w' := by
  obtain ⟨x, rfl⟩ := Int.eq_ofNat_of_zero_le hx0
  obtain ⟨y, rfl⟩ := Int.eq_ofNat_of_zero_le hy0
  refine (Tryz.bits_Mul64 x y (by omega) (by omega) w).mono fun e w' ⟨he, hw⟩ => ⟨?_, hw.symm⟩
  rw [he]
  unfold hiW loW
  rw [← Int.natCast_mul]
  rfl
def sgn (neg : Bool) (n : Int) : Int := if neg = true then -n else n
set_option maxHeartbeats 4000000 in
theorem join_any (n : Int) (neg : Bool) (w : World) (h0 : 0 ≤ n) (h1 : n < 170141183460469231731687303715884105728) :
    Calls Tryz.prog 91 #[.agg #[.int .u64 (hiW n), .int .u64 (loW n)], .bool neg] w fun e w' => e = .returned (.tuple #[wv (sgn neg n), .bool true]) ∧ Below w.heap.size w w' := by
  have a0 : 0 ≤ hiW n := by unfold hiW; omega
  have a1 : hiW n < 9223372036854775808 := by unfold hiW; omega
  obtain ⟨b0, b1⟩ := lo_rng n
  cases neg
  · have g : decide ((9223372036854775808 : Int) ≤ hiW n) = false := by simp; omega
    have e1 : IntKind.i64.wrap (hiW n) = hiW n := IntWalk.i64_in _ (by omega)
    go_enter Tryz.func91, Tryz.ntmps91
    go_wp2
    refine bodyPost_ret (v := .tuple #[.agg #[.int .i64 (hiW n), .int .u64 (loW n)], .bool true]) (by simp [results, Tryz.results91, go_sem]) rfl ⟨rfl, ?_⟩
    exact ((Below.refl _ _).alloc (Nat.le_refl _) _).alloc (by simp) _
  · have g1 : decide ((9223372036854775808 : Int) < hiW n) = false := by simp; omega
    have g2 : (hiW n == 9223372036854775808) = false := by simp; omega
    have S1 := fun w => sub64 0 (loW n) 0 (by omega) b0 b1 (by omega) (by omega) w
    have S2 := fun w => sub64 0 (hiW n) (bor 0 (loW n) 0) (by omega) a0 (by omega) (bor_rng _ _ _).1 (bor_rng _ _ _).2 w
    have E1 : (0 - loW n - 0) % 18446744073709551616 = loW (-n) := by unfold loW; omega
    have E2 : IntKind.i64.wrap ((0 - hiW n - bor 0 (loW n) 0) % 18446744073709551616) = hiW (-n) := by
      unfold bor hiW loW
      simp only [IntKind.wrap, IntKind.bits, IntKind.signed]
      split <;> simp <;> omega
    rw [E1] at S1
    generalize bor 0 (loW n) 0 = bo at *
    generalize (0 - hiW n - bo) % 18446744073709551616 = hh at *
    go_enter Tryz.func91, Tryz.ntmps91
    go_wp2_with (first | simp only [S1] | simp only [S2])
    refine bodyPost_ret (v := .tuple #[.agg #[.int .i64 (hiW (-n)), .int .u64 (loW (-n))], .bool true]) (by simp [results, Tryz.results91, go_sem]) rfl ⟨rfl, ?_⟩
    exact ((Below.refl _ _).alloc (Nat.le_refl _) _).alloc (by simp) _
set_option maxHeartbeats 4000000 in
set_option maxRecDepth 100000 in
theorem wmul_any (a b : Int) (w : World) (ha0 : -9223372036854775808 ≤ a) (ha1 : a ≤ 9223372036854775807) (hb0 : -9223372036854775808 ≤ b) (hb1 : b ≤ 9223372036854775807) :
    Calls Tryz.prog 60 #[.int .i64 a, .int .i64 b] w fun e w' => e = .returned (wv (a * b)) ∧ Below w.heap.size w w' := by
  have A1 : absW a ≤ 9223372036854775808 := by unfold absW; split <;> omega
  have B1 : absW b ≤ 9223372036854775808 := by unfold absW; split <;> omega
  obtain ⟨m0, m1⟩ := mul_u (absW_nonneg a) A1 (absW_nonneg b) B1
  have M := Lib.hid fun w => mul64_int (absW a) (absW b) (absW_nonneg a) (by omega) (absW_nonneg b) (by omega) w
  have AA := Lib.hid fun w => wabs_any a w ha0 ha1
  have AB := Lib.hid fun w => wabs_any b w hb0 hb1
  have E := Lib.hid (absW_mul a b)
  have J := Lib.hid fun w => join_any (absW a * absW b) (decide (a < 0) != decide (b < 0)) w m0 (by omega)
  generalize absW a * absW b = p at *
  have K0 := Lib.hid (Blk.new #[.int .i64 0, .int .u64 0] w 79)
  have HB0 := Lib.hid ((Below.refl w.heap.size w).alloc (Nat.le_refl _) (.cells #[.int .i64 0, .int .u64 0] 79))
  obtain ⟨sg, gs⟩ : ∃ sg, (decide (a < 0) == decide (b < 0)) = sg := ⟨_, rfl⟩
  have E2 : a * b = sgn (!sg) p := by rw [E.out, ← gs]; rfl
  have J2 : Hid (∀ w, Calls Tryz.prog 91 #[.agg #[.int .u64 (hiW p), .int .u64 (loW p)], .bool (!sg)] w fun e w' => e = .returned (.tuple #[wv (sgn (!sg) p), .bool true]) ∧ Below w.heap.size w w') := by rw [← gs]; exact J
  rw [E2]
  clear E E2 J
  obtain ⟨r, hr⟩ : ∃ r, sgn (!sg) p = r := ⟨_, rfl⟩
  rw [hr] at J2 ⊢
  go_enter Tryz.func60, Tryz.ntmps60
  go_wp2_with fail
  generalize w.alloc (.cells #[.int .i64 0, .int .u64 0] 79) = w0 at *
  refine (AA.out _).mono ?_
  rintro e w1 ⟨rfl, rfl⟩
  go_wp2_with fail
  refine (AB.out _).mono ?_
  rintro e w1 ⟨rfl, rfl⟩
  go_wp2_with fail
  refine (M.out _).mono ?_
  rintro e w1 ⟨rfl, rfl⟩
  go_wp2_with fail
  refine (J2.out _).mono ?_
  rintro e w1 ⟨rfl, hb1⟩
  have K1 := K0.out.below hb1
  have HB1 := Lib.hid (HB0.out.trans (hb1.mono HB0.out.size))
  unfold wv
  have c0 := K1.c 0 _ rfl
  have c1 := K1.c 1 _ rfl
  have f0 := K1.f 0 _ rfl
  have f1 := K1.f 1 _ rfl
  have z0 := K1.lt
  have HK1 := Lib.hid K1
  clear hb1 K1 gs hr
  go_wp2
  have K2 := (blk_set (blk_set HK1.out (j := 0) (by simp) (.int .i64 (hiW r))) (j := 1) (by simp) (.int .u64 (loW r))).alloc (.cells #[.int .i64 (hiW r), .int .u64 (loW r)] 79)
  have d0 := K2.c 0 _ rfl
  have d1 := K2.c 1 _ rfl
  refine bodyPost_ret (v := .agg #[.int .i64 (hiW r), .int .u64 (loW r)]) (by simp [results, Tryz.results60, go_sem, d0, d1]) rfl ⟨rfl, ?_⟩
  exact (bset2 HB1.out (Nat.le_refl _) _ _).alloc (by have := HB1.out.size; simp [World.setCell]; omega) _
theorem add_hi {x y : Int} (h : FitW (x + y)) :
    IntKind.i64.wrap ((IntKind.u64.wrap (hiW x) + IntKind.u64.wrap (hiW y) + (loW x + loW y + 0) / 18446744073709551616) % 18446744073709551616) = hiW (x + y) := by
  obtain ⟨a, b⟩ := h
  unfold hiW loW
  simp only [IntKind.wrap, IntKind.bits, IntKind.signed]
  simp
  omega
theorem add_lo (x y : Int) : (loW x + loW y + 0) % 18446744073709551616 = loW (x + y) := by unfold loW; omega
set_option maxHeartbeats 4000000 in
set_option maxRecDepth 100000 in
theorem wadd_any (x y : Int) (w : World) (hx : FitW x) (hy : FitW y) (hs : FitW (x + y)) :
    Calls Tryz.prog 88 #[wv x, wv y] w fun e w' => e = .returned (.tuple #[wv (x + y), .bool true]) ∧ Below w.heap.size w w' := by
  obtain ⟨p0, p1⟩ := lo_rng x
  obtain ⟨q0, q1⟩ := lo_rng y
  have S1 := fun w => add64 (loW x) (loW y) 0 p0 q0 (by omega) (by omega) w
  have S2 := fun w => add64 (IntKind.u64.wrap (hiW x)) (IntKind.u64.wrap (hiW y)) ((loW x + loW y + 0) / 18446744073709551616) (by rw [IntKind.wrap_u64]; omega) (by rw [IntKind.wrap_u64]; omega) (by omega) (by omega) w
  have E1 := add_hi hs
  rw [add_lo x y] at S1
  have C1 : (decide (hiW x < 0) == decide (hiW y < 0)) = false ∨ ((decide (hiW x < 0) == decide (hiW y < 0)) = true ∧ (decide (hiW (x + y) < 0) == decide (hiW x < 0)) = true) := by
    obtain ⟨a, b⟩ := hs
    by_cases h1 : x < 0 <;> by_cases h2 : y < 0 <;> simp [hi_neg, h1, h2] <;> omega
  generalize (loW x + loW y + 0) / 18446744073709551616 = c at *
  generalize (IntKind.u64.wrap (hiW x) + IntKind.u64.wrap (hiW y) + c) % 18446744073709551616 = hh at *
  have HS := Lib.hid hs
  clear hx hy hs
  unfold wv
  rcases C1 with g | ⟨g, g'⟩
  all_goals
    go_enter Tryz.func88, Tryz.ntmps88
    go_wp2_with (first | simp only [S1] | simp only [S2])
    refine bodyPost_ret (v := .tuple #[.agg #[.int .i64 (hiW (x + y)), .int .u64 (loW (x + y))], .bool true]) (by simp [results, Tryz.results88, go_sem]) rfl ⟨rfl, ?_⟩
    exact (((Below.refl _ _).alloc (Nat.le_refl _) _).alloc (by simp) _).alloc (by simp; try omega) _
set_option maxHeartbeats 4000000 in
theorem wint_any (x : Int) (w : World) (h0 : -9223372036854775808 ≤ x) (h1 : x < 9223372036854775808) :
    Calls Tryz.prog 85 #[wv x] w fun e w' => e = .returned (.tuple #[.int .i64 x, .bool true]) ∧ Below w.heap.size w w' := by
  have E1 : IntKind.i64.wrap (loW x) = x := by unfold loW; simp [IntKind.wrap, IntKind.bits, IntKind.signed]; omega
  have g : (hiW x == x / 9223372036854775808) = true := by unfold hiW; simp; omega
  unfold wv
  go_enter Tryz.func85, Tryz.ntmps85
  go_wp2
  go_ret2
  exact ⟨rfl, (Below.refl _ _).alloc (Nat.le_refl _) _⟩
theorem wint_out (x : Int) (w : World) (hx : FitW x) (h : x < -9223372036854775808 ∨ 9223372036854775808 ≤ x) :
    Calls Tryz.prog 85 #[wv x] w fun e w' => e = .returned (.tuple #[.int .i64 0, .bool false]) ∧ Below w.heap.size w w' := by
  obtain ⟨t, ht⟩ : ∃ t, IntKind.i64.wrap (loW x) = t := ⟨_, rfl⟩
  have g : (hiW x == t / 9223372036854775808) = false := by
    obtain ⟨a, b⟩ := hx
    rw [← ht]
    unfold hiW loW; simp [IntKind.wrap, IntKind.bits, IntKind.signed]; omega
  unfold wv
  go_enter Tryz.func85, Tryz.ntmps85
  go_wp2
  go_ret2
  exact ⟨rfl, (Below.refl _ _).alloc (Nat.le_refl _) _⟩
end Go.Proofs.YtidelghgjibndaaGreat
namespace Go.Proofs.YtidelghgjibndaaGreat
set_option linter.unusedVariables false
open Go.RowKit
set_option maxHeartbeats 4000000 in
theorem wof_any (a : Int) (w : World) (h0 : -9223372036854775808 ≤ a) (h1 : a ≤ 9223372036854775807) :
    Calls Tryz.prog 84 #[.int .i64 a] w fun e w' => e = .returned (wv a) ∧ Below w.heap.size w w' := by
  have E1 : a / 9223372036854775808 = hiW a := by unfold hiW; omega
  have E2 : IntKind.u64.wrap a = loW a := by rw [IntKind.wrap_u64]; rfl
  go_enter Tryz.func84, Tryz.ntmps84
  go_wp2
  refine bodyPost_ret (v := .agg #[.int .i64 (hiW a), .int .u64 (loW a)]) (by simp [results, Tryz.results84, go_sem]) rfl ⟨rfl, ?_⟩
  exact (Below.refl _ _).alloc (Nat.le_refl _) _
theorem sub_hi {x y : Int} (h : FitW (x - y)) :
    IntKind.i64.wrap ((IntKind.u64.wrap (hiW x) - IntKind.u64.wrap (hiW y) - bor (loW x) (loW y) 0) % 18446744073709551616) = hiW (x - y) := by
  obtain ⟨a, b⟩ := h
  rw [IntKind.wrap_u64, IntKind.wrap_u64]
  have e : ∀ z : Int, IntKind.i64.wrap (z % 18446744073709551616) = if 9223372036854775808 ≤ z % 18446744073709551616 then z % 18446744073709551616 - 18446744073709551616 else z % 18446744073709551616 := by
    intro z
    simp [IntKind.wrap, IntKind.bits, IntKind.signed]
  rw [e]
  unfold bor hiW loW
  by_cases c : x % 18446744073709551616 < y % 18446744073709551616 + 0
  · rw [if_pos c]
    split <;> omega
  · rw [if_neg c]
    split <;> omega
theorem sub_lo (x y : Int) : (loW x - loW y - 0) % 18446744073709551616 = loW (x - y) := by unfold loW; omega
set_option maxHeartbeats 4000000 in
set_option maxRecDepth 100000 in
theorem wsub_any (x y : Int) (w : World) (hx : FitW x) (hy : FitW y) (hs : FitW (x - y)) :
    Calls Tryz.prog 82 #[wv x, wv y] w fun e w' => e = .returned (.tuple #[wv (x - y), .bool true]) ∧ Below w.heap.size w w' := by
  obtain ⟨p0, p1⟩ := lo_rng x
  obtain ⟨q0, q1⟩ := lo_rng y
  have S1 := fun w => sub64 (loW x) (loW y) 0 p0 q0 q1 (by omega) (by omega) w
  have S2 := fun w => sub64 (IntKind.u64.wrap (hiW x)) (IntKind.u64.wrap (hiW y)) (bor (loW x) (loW y) 0) (by rw [IntKind.wrap_u64]; omega) (by rw [IntKind.wrap_u64]; omega) (by rw [IntKind.wrap_u64]; omega) (bor_rng _ _ _).1 (bor_rng _ _ _).2 w
  have E1 := sub_hi hs
  rw [sub_lo x y] at S1
  have C1 : (decide (hiW x < 0) == decide (hiW y < 0)) = true ∨ ((decide (hiW x < 0) == decide (hiW y < 0)) = false ∧ (decide (hiW (x - y) < 0) == decide (hiW x < 0)) = true) := by
    obtain ⟨a, b⟩ := hs
    by_cases h1 : x < 0 <;> by_cases h2 : y < 0 <;> simp [hi_neg, h1, h2] <;> omega
  generalize bor (loW x) (loW y) 0 = c at *
  generalize (IntKind.u64.wrap (hiW x) - IntKind.u64.wrap (hiW y) - c) % 18446744073709551616 = hh at *
  clear hx hy hs
  unfold wv
  rcases C1 with g | ⟨g, g'⟩
  all_goals
    go_enter Tryz.func82, Tryz.ntmps82
    go_wp2_with (first | simp only [S1] | simp only [S2])
    refine bodyPost_ret (v := .tuple #[.agg #[.int .i64 (hiW (x - y)), .int .u64 (loW (x - y))], .bool true]) (by simp [results, Tryz.results82, go_sem]) rfl ⟨rfl, ?_⟩
    exact (((Below.refl _ _).alloc (Nat.le_refl _) _).alloc (by simp) _).alloc (by simp; try omega) _
end Go.Proofs.YtidelghgjibndaaGreat
namespace Go.Proofs.YtidelghgjibndaaGreat
set_option linter.unusedVariables false
theorem or_word {x b : Int} (h0 : 0 ≤ x) (h1 : x < 18446744073709551616) (hb0 : 0 ≤ b) (hb : b < 2) :
    bits .or .u64 (IntKind.u64.wrap (x * 2)) b = (x * 2) % 18446744073709551616 + b := by
  obtain ⟨x, rfl⟩ := Int.eq_ofNat_of_zero_le h0
  obtain ⟨b, rfl⟩ := Int.eq_ofNat_of_zero_le hb0
  rw [show IntKind.u64.wrap ((x : Int) * 2) = ((2 * x % 18446744073709551616 : Nat) : Int) by rw [IntKind.wrap_u64]; omega,
    bits_or_u64_nat _ _ (by omega) (by omega), or_bit x b (by omega)]
  omega
theorem tw_hi {r b : Int} (h0 : 0 ≤ r) (h1 : r < 170141183460469231731687303715884105728) (hb0 : 0 ≤ b) (hb : b < 2) :
    bits .or .u64 (IntKind.u64.wrap (hiW r * 2)) (loW r / 9223372036854775808) = hiW (2 * r + b) := by
  have a0 : 0 ≤ hiW r := by unfold hiW; omega
  have a1 : hiW r < 9223372036854775808 := by unfold hiW; omega
  obtain ⟨c0, c1⟩ := lo_rng r
  rw [or_word a0 (by omega) (by omega) (by omega)]
  unfold hiW loW at *
  omega
theorem tw_lo {r b : Int} (h0 : 0 ≤ r) (hb0 : 0 ≤ b) (hb : b < 2) : bits .or .u64 (IntKind.u64.wrap (loW r * 2)) b = loW (2 * r + b) := by
  obtain ⟨c0, c1⟩ := lo_rng r
  rw [or_word c0 c1 hb0 hb]
  unfold loW at *
  omega
/-- what is left of the dividend above bit k, and its quotient and remainder -/
def qD (N D k : Nat) : Nat := N / 2 ^ k / D
def rD (N D k : Nat) : Nat := N / 2 ^ k % D
def bD (N k : Nat) : Nat := N / 2 ^ k % 2
theorem bD_lt (N k : Nat) : bD N k < 2 := Nat.mod_lt _ (by decide)
theorem qr_top {N D : Nat} (h : N < 340282366920938463463374607431768211456) : qD N D 128 = 0 ∧ rD N D 128 = 0 := by
  have e : N / 2 ^ 128 = 0 := Nat.div_eq_of_lt (by omega)
  unfold qD rD
  rw [e]
  simp
theorem qr_one {N D k : Nat} (hD : 0 < D) (h : D ≤ 2 * rD N D (k + 1) + bD N k) : qD N D k = 2 * qD N D (k + 1) + 1 ∧ rD N D k = 2 * rD N D (k + 1) + bD N k - D := by
  unfold qD rD at *
  rw [bit_at N k]
  exact div_one (bD_lt N k) hD h
theorem qr_zero {N D k : Nat} (hD : 0 < D) (h : ¬ D ≤ 2 * rD N D (k + 1) + bD N k) : qD N D k = 2 * qD N D (k + 1) ∧ rD N D k = 2 * rD N D (k + 1) + bD N k := by
  unfold qD rD at *
  rw [bit_at N k]
  exact div_zero (bD_lt N k) hD h
theorem qr_end (N D : Nat) : qD N D 0 = N / D ∧ rD N D 0 = N % D := by
  unfold qD rD
  simp
theorem rD_lt (N k : Nat) {D : Nat} (h : 0 < D) : rD N D k < D := Nat.mod_lt _ h
theorem qD_lt {N D k : Nat} (h : N < 340282366920938463463374607431768211456) : qD N D (k + 1) < 170141183460469231731687303715884105728 :=
  Nat.lt_of_le_of_lt (Nat.div_le_self _ _) (top_small h)
theorem bit_lo' {N i : Nat} (h : i < 64) : loW (N : Int) / (2 ^ i : Nat) % 2 = (bD N i : Int) := by
  have e : loW (N : Int) = ((N % 18446744073709551616 : Nat) : Int) := by unfold loW; omega
  rw [e]
  unfold bD
  rw [← bit_lo h]
  rfl
theorem bit_hi' {N i : Nat} (h : 64 ≤ i) : hiW (N : Int) / (2 ^ (i - 64) : Nat) % 2 = (bD N i : Int) := by
  have e : hiW (N : Int) = ((N / 18446744073709551616 : Nat) : Int) := by unfold hiW; omega
  rw [e]
  unfold bD
  rw [← bit_hi h]
  rfl
/-- two sizes compared word by word -/
def cmpI (x y : Int) : Int := if x < y then -1 else if y < x then 1 else 0
theorem cmp_words {x y : Int} : cmpI x y = if hiW x = hiW y then cmpI (loW x) (loW y) else cmpI (hiW x) (hiW y) := by
  unfold cmpI hiW loW
  split <;> split <;> (try split) <;> (try split) <;> (try split) <;> omega
end Go.Proofs.YtidelghgjibndaaGreat
namespace Go.Proofs.YtidelghgjibndaaGreat
set_option linter.unusedVariables false
open Go.RowKit
/-- the value of a size -/
def usz (n : Int) : Value := .agg #[.int .u64 (hiW n), .int .u64 (loW n)]
theorem retb {a b : Bool} (h : a = b) : Ending.returned (.bool a) = .returned (.bool b) := by rw [h]
set_option maxHeartbeats 4000000 in
theorem wsplit_any (x : Int) (w : World) (h : FitW x) :
    Calls Tryz.prog 124 #[wv x] w fun e w' => e = .returned (.tuple #[usz (absW x), .bool (decide (x < 0))]) ∧ Below w.heap.size w w' := by
  obtain ⟨b0, b1⟩ := lo_rng x
  obtain ⟨a0, a1⟩ := hi_rng h
  unfold wv usz
  by_cases q : x < 0
  · have g : decide (0 ≤ hiW x) = false := by have := (hi_neg x).2 q; simp; omega
    have g' : decide (hiW x < 0) = true := by have := (hi_neg x).2 q; simp; omega
    have EX : decide (x < 0) = true := by simpa using q
    have S1 := fun w => sub64 0 (loW x) 0 (by omega) b0 b1 (by omega) (by omega) w
    have S2 := fun w => sub64 0 (IntKind.u64.wrap (hiW x)) (bor 0 (loW x) 0) (by omega) (by rw [IntKind.wrap_u64]; omega) (by rw [IntKind.wrap_u64]; omega) (bor_rng _ _ _).1 (bor_rng _ _ _).2 w
    have E1 : (0 - loW x - 0) % 18446744073709551616 = loW (absW x) := by unfold absW loW; split <;> omega
    have E2 : (0 - IntKind.u64.wrap (hiW x) - bor 0 (loW x) 0) % 18446744073709551616 = hiW (absW x) := by
      obtain ⟨f0, f1⟩ := h
      rw [IntKind.wrap_u64]
      unfold bor hiW loW absW
      split <;> (try split) <;> omega
    rw [E1] at S1
    rw [E2] at S2
    rw [EX]
    generalize bor 0 (loW x) 0 = bo at *
    clear E1 E2 EX h q
    generalize absW x = r at *
    go_enter Tryz.func124, Tryz.ntmps124
    go_wp2_with (first | simp only [S1] | simp only [S2])
    refine bodyPost_ret (v := .tuple #[.agg #[.int .u64 (hiW r), .int .u64 (loW r)], .bool true]) (by simp [results, Tryz.results124, go_sem]) rfl ⟨rfl, ?_⟩
    exact ((Below.refl _ _).alloc (Nat.le_refl _) _).alloc (by simp) _
  · have g : decide (0 ≤ hiW x) = true := by have := hi_neg x; simp; omega
    have g' : decide (hiW x < 0) = false := by have := hi_neg x; simp; omega
    have EX : decide (x < 0) = false := by simpa using q
    have EA : absW x = x := by unfold absW; rw [if_neg q]
    have E1 : IntKind.u64.wrap (hiW x) = hiW x := by have := hi_neg x; rw [IntKind.wrap_u64]; omega
    rw [EX, EA]
    clear EX EA h q
    go_enter Tryz.func124, Tryz.ntmps124
    go_wp2
    refine bodyPost_ret (v := .tuple #[.agg #[.int .u64 (hiW x), .int .u64 (loW x)], .bool false]) (by simp [results, Tryz.results124, go_sem]) rfl ⟨rfl, ?_⟩
    exact ((Below.refl _ _).alloc (Nat.le_refl _) _).alloc (by simp) _
set_option maxHeartbeats 4000000 in
theorem wzero_any (n : Int) (w : World) :
    Calls Tryz.prog 125 #[usz n] w fun e w' => e = .returned (.bool (decide (n = 0))) ∧ Below w.heap.size w w' := by
  unfold usz
  by_cases h : hiW n = 0
  · have g : (hiW n == 0) = true := by simpa using h
    by_cases k : loW n = 0
    · have g' : (loW n == 0) = true := by simpa using k
      have E := Lib.hid (show decide (n = 0) = true by unfold hiW loW at *; simp; omega)
      clear h k
      go_enter Tryz.func125, Tryz.ntmps125
      go_wp2
      go_ret
      exact ⟨retb E.out.symm, (Below.refl _ _).alloc (Nat.le_refl _) _⟩
    · have g' : (loW n == 0) = false := by simpa using k
      have E := Lib.hid (show decide (n = 0) = false by unfold hiW loW at *; simp; omega)
      clear h k
      go_enter Tryz.func125, Tryz.ntmps125
      go_wp2
      go_ret
      exact ⟨retb E.out.symm, (Below.refl _ _).alloc (Nat.le_refl _) _⟩
  · have g : (hiW n == 0) = false := by simpa using h
    have E := Lib.hid (show decide (n = 0) = false by unfold hiW at *; simp; omega)
    clear h
    go_enter Tryz.func125, Tryz.ntmps125
    go_wp2
    go_ret
    exact ⟨retb E.out.symm, (Below.refl _ _).alloc (Nat.le_refl _) _⟩
theorem isnan_u (x : Int) (w : World) : Calls Tryz.prog 138 #[.int .u64 x] w fun e w' => e = .returned (.bool false) ∧ w = w' := by
  have g : (x == x) = true := by simp
  go_enter Tryz.func138, Tryz.ntmps138
  go_wp2
  go_ret
  exact ⟨rfl, rfl⟩
set_option maxHeartbeats 4000000 in
theorem compare_u (x y : Int) (w : World) : Calls Tryz.prog 136 #[.int .u64 x, .int .u64 y] w fun e w' => e = .returned (.int .i64 (cmpI x y)) ∧ w = w' := by
  rcases Int.lt_trichotomy x y with h | h | h
  · have g : decide (x < y) = true := by simpa using h
    have E := Lib.hid (show cmpI x y = -1 by unfold cmpI; rw [if_pos h])
    clear h
    go_enter Tryz.func136, Tryz.ntmps136
    go_wp2_with (go_at_call 138; refine (isnan_u _ _).mono ?_; rintro e w2 ⟨rfl, rfl⟩)
    go_ret
    exact ⟨ret_iw E.out.symm, rfl⟩
  · subst h
    have g : decide (x < x) = false := by simp
    have E := Lib.hid (show cmpI x x = 0 by unfold cmpI; rw [if_neg (by omega), if_neg (by omega)])
    go_enter Tryz.func136, Tryz.ntmps136
    go_wp2_with (go_at_call 138; refine (isnan_u _ _).mono ?_; rintro e w2 ⟨rfl, rfl⟩)
    go_ret
    exact ⟨ret_iw E.out.symm, rfl⟩
  · have g : decide (x < y) = false := by simp; omega
    have g' : decide (y < x) = true := by simpa using h
    have E := Lib.hid (show cmpI x y = 1 by unfold cmpI; rw [if_neg (by omega), if_pos (by omega)])
    clear h
    go_enter Tryz.func136, Tryz.ntmps136
    go_wp2_with (go_at_call 138; refine (isnan_u _ _).mono ?_; rintro e w2 ⟨rfl, rfl⟩)
    go_ret
    exact ⟨ret_iw E.out.symm, rfl⟩
set_option maxHeartbeats 4000000 in
theorem wcmp_any (x y : Int) (w : World) :
    Calls Tryz.prog 127 #[usz x, usz y] w fun e w' => e = .returned (.int .i64 (cmpI x y)) ∧ Below w.heap.size w w' := by
  unfold usz
  by_cases h : hiW x = hiW y
  · have g : (hiW x == hiW y) = true := by simpa using h
    have g' : (hiW x != hiW y) = false := by simpa using h
    have E := Lib.hid (show cmpI x y = cmpI (loW x) (loW y) by rw [cmp_words, if_pos h])
    have C := Lib.hid fun w => compare_u (loW x) (loW y) w
    generalize cmpI (loW x) (loW y) = c at *
    generalize hiW x = a at *
    generalize hiW y = b at *
    clear h
    go_enter Tryz.func127, Tryz.ntmps127
    go_wp2_with (go_at_call 136; refine (C.out _).mono ?_; rintro e w2 ⟨rfl, rfl⟩)
    go_ret
    exact ⟨ret_iw E.out.symm, ((Below.refl _ _).alloc (Nat.le_refl _) _).alloc (by simp) _⟩
  · have g : (hiW x == hiW y) = false := by simpa using h
    have g' : (hiW x != hiW y) = true := by simpa using h
    have E := Lib.hid (show cmpI x y = cmpI (hiW x) (hiW y) by rw [cmp_words, if_neg h])
    have C := Lib.hid fun w => compare_u (hiW x) (hiW y) w
    generalize cmpI (hiW x) (hiW y) = c at *
    generalize hiW x = a at *
    generalize hiW y = b at *
    clear h
    go_enter Tryz.func127, Tryz.ntmps127
    go_wp2_with (go_at_call 136; refine (C.out _).mono ?_; rintro e w2 ⟨rfl, rfl⟩)
    go_ret
    exact ⟨ret_iw E.out.symm, ((Below.refl _ _).alloc (Nat.le_refl _) _).alloc (by simp) _⟩
set_option maxHeartbeats 4000000 in
theorem wtwice_any (r b : Int) (w : World) (h0 : 0 ≤ r) (h1 : r < 170141183460469231731687303715884105728) (hb0 : 0 ≤ b) (hb : b < 2) :
    Calls Tryz.prog 135 #[usz r, .int .u64 b] w fun e w' => e = .returned (usz (2 * r + b)) ∧ Below w.heap.size w w' := by
  have T1 := tw_hi h0 h1 hb0 hb
  have T2 := tw_lo (r := r) h0 hb0 hb
  unfold usz
  generalize hiW (2 * r + b) = c at *
  generalize loW (2 * r + b) = d at *
  go_enter Tryz.func135, Tryz.ntmps135
  go_wp2
  refine bodyPost_ret (v := .agg #[.int .u64 c, .int .u64 d]) (by simp [results, Tryz.results135, go_sem]) rfl ⟨rfl, ?_⟩
  exact ((Below.refl _ _).alloc (Nat.le_refl _) _).alloc (by simp) _
set_option maxHeartbeats 4000000 in
theorem wless_any (s t : Int) (w : World) (h0 : 0 ≤ t) (h1 : t ≤ s) (h2 : s < 340282366920938463463374607431768211456) :
    Calls Tryz.prog 128 #[usz s, usz t] w fun e w' => e = .returned (usz (s - t)) ∧ Below w.heap.size w w' := by
  obtain ⟨p0, p1⟩ := lo_rng s
  obtain ⟨q0, q1⟩ := lo_rng t
  have S1 := fun w => sub64 (loW s) (loW t) 0 p0 q0 q1 (by omega) (by omega) w
  have S2 := fun w => sub64 (hiW s) (hiW t) (bor (loW s) (loW t) 0) (by unfold hiW; omega) (by unfold hiW; omega) (by unfold hiW; omega) (bor_rng _ _ _).1 (bor_rng _ _ _).2 w
  have E1 := sub_lo s t
  have E2 : (hiW s - hiW t - bor (loW s) (loW t) 0) % 18446744073709551616 = hiW (s - t) := by
    unfold bor hiW loW
    split <;> omega
  rw [E1] at S1
  rw [E2] at S2
  clear E1 E2
  unfold usz
  generalize bor (loW s) (loW t) 0 = bo at *
  generalize hiW (s - t) = c at *
  generalize loW (s - t) = d at *
  go_enter Tryz.func128, Tryz.ntmps128
  go_wp2_with (first | simp only [S1] | simp only [S2])
  refine bodyPost_ret (v := .agg #[.int .u64 c, .int .u64 d]) (by simp [results, Tryz.results128, go_sem]) rfl ⟨rfl, ?_⟩
  exact (((Below.refl _ _).alloc (Nat.le_refl _) _).alloc (by simp) _).alloc (by simp; try omega) _
end Go.Proofs.YtidelghgjibndaaGreat
namespace Go.Proofs.YtidelghgjibndaaGreat
set_option linter.unusedVariables false
open Go.RowKit
theorem and_i64 (a : Nat) (h : a < 9223372036854775808) : bits .and .i64 (a : Int) 63 = ((a % 64 : Nat) : Int) := by
  have h1 : (BitVec.ofInt 64 (a : Int)).toNat = a := by
    rw [BitVec.ofInt_natCast, BitVec.toNat_ofNat]; exact Nat.mod_eq_of_lt (by omega)
  have h2 : (BitVec.ofInt 64 (63 : Int)).toNat = 63 := rfl
  show IntKind.i64.wrap ((BitVec.ofInt 64 (a : Int) &&& BitVec.ofInt 64 (63 : Int)).toNat : Int) = _
  rw [BitVec.toNat_and, h1, h2, show (63 : Nat) = 2 ^ 6 - 1 from rfl, Nat.and_two_pow_sub_one_eq_mod]
  exact IntWalk.i64_in _ (by omega)
theorem and1_u64 {x : Int} (h0 : 0 ≤ x) (h1 : x < 18446744073709551616) : bits .and .u64 x 1 = x % 2 := by
  obtain ⟨x, rfl⟩ := Int.eq_ofNat_of_zero_le h0
  have := bits_and_u64_nat x 1 (by omega) (by omega)
  rw [show ((1 : Nat) : Int) = 1 from rfl] at this
  rw [this, Nat.and_one_is_mod]
  rfl
theorem or1_u64 {q : Int} (h0 : 0 ≤ q) : bits .or .u64 (loW (2 * q)) 1 = loW (2 * q + 1) := by
  obtain ⟨c0, c1⟩ := lo_rng q
  have := or_word (x := loW q) (b := 1) c0 c1 (by omega) (by omega)
  rw [show loW (2 * q) = IntKind.u64.wrap (loW q * 2) by rw [IntKind.wrap_u64]; unfold loW; omega, this]
  unfold loW; omega
theorem hi_odd {q : Int} (h0 : 0 ≤ q) : hiW (2 * q) = hiW (2 * q + 1) := by unfold hiW; omega
theorem div_pow {x : Int} {j : Nat} (h0 : 0 ≤ x) (h1 : x < 18446744073709551616) : 0 ≤ x / 2 ^ j ∧ x / 2 ^ j < 18446744073709551616 := by
  have hp : (0 : Int) < 2 ^ j := Int.pow_pos (by decide)
  refine ⟨Int.ediv_nonneg h0 (by omega), ?_⟩
  exact Int.lt_of_le_of_lt (Int.ediv_le_self _ h0) h1
/-- the bit of a size at a place, as the walk reads it -/
theorem bit_low {N j : Nat} (h : j < 64) : bits .and .u64 (loW (N : Int) / 2 ^ j) 1 = (bD N j : Int) := by
  obtain ⟨b0, b1⟩ := lo_rng (N : Int)
  obtain ⟨c0, c1⟩ := div_pow (j := j) b0 b1
  rw [and1_u64 c0 c1, ← bit_lo' h, Int.natCast_pow]
  rfl
theorem bit_high {N j : Nat} (hN : N < 340282366920938463463374607431768211456) : bits .and .u64 (hiW (N : Int) / 2 ^ j) 1 = (bD N (j + 64) : Int) := by
  obtain ⟨c0, c1⟩ := div_pow (x := hiW (N : Int)) (j := j) (by unfold hiW; omega) (by unfold hiW; omega)
  rw [and1_u64 c0 c1, ← bit_hi' (i := j + 64) (by omega), Int.natCast_pow, show j + 64 - 64 = j by omega]
  rfl
def OvR (N D : Nat) (w : World) (v : Value) (wr : World) : Prop := ∃ (k : Nat) (z : Int), v = .int .i64 z ∧ Hid (z = (k : Int) - 1) ∧ k ≤ 128 ∧ Hid (Below w.heap.size w wr) ∧
  Hid (Blk [.int .u64 (hiW N), .int .u64 (loW N)] w.heap.size wr) ∧ Hid (Blk [.int .u64 (hiW D), .int .u64 (loW D)] (w.heap.size + 1) wr) ∧
  Hid (Blk [.int .u64 (hiW (qD N D k : Nat)), .int .u64 (loW (qD N D k : Nat))] (w.heap.size + 1 + 1) wr) ∧ Hid (Blk [.int .u64 (hiW (rD N D k : Nat)), .int .u64 (loW (rD N D k : Nat))] (w.heap.size + 1 + 1 + 1) wr)
theorem below_drew1 {B : Nat} {a w : World} (h : Below B a w) : Below B a w.drew := ⟨h.os, h.tape, h.output, h.size, h.block⟩
theorem ov_step {N D i : Nat} (hN : N < 340282366920938463463374607431768211456) (hD : 0 < D) (hD1 : D ≤ 170141183460469231731687303715884105728) :
    ∃ R Q b R' Q' : Int, R = (rD N D (i + 1) : Nat) ∧ Q = (qD N D (i + 1) : Nat) ∧ b = (bD N i : Nat) ∧ R' = (rD N D i : Nat) ∧ Q' = (qD N D i : Nat) ∧
      0 ≤ R ∧ R < 170141183460469231731687303715884105728 ∧ 0 ≤ Q ∧ Q < 170141183460469231731687303715884105728 ∧ 0 ≤ b ∧ b < 2 ∧ (0 : Int) < D ∧ (D : Int) ≤ 170141183460469231731687303715884105728 ∧
      (((D : Int) ≤ 2 * R + b ∧ Q' = 2 * Q + 1 ∧ R' = 2 * R + b - D) ∨ (2 * R + b < (D : Int) ∧ Q' = 2 * Q ∧ R' = 2 * R + b)) := by
  have BB := bD_lt N i
  have RL := rD_lt N (D := D) (k := i + 1) hD
  have QL := qD_lt (D := D) (k := i) hN
  refine ⟨_, _, _, _, _, rfl, rfl, rfl, rfl, rfl, by omega, by omega, by omega, by omega, by omega, by omega, by omega, by omega, ?_⟩
  by_cases h : D ≤ 2 * rD N D (i + 1) + bD N i
  · have := qr_one hD h
    exact .inl ⟨by omega, by omega, by omega⟩
  · have := qr_zero hD h
    exact .inr ⟨by omega, by omega, by omega⟩
theorem blk_drew1 {vs : List Value} {b : Nat} {W : World} (h : Blk vs b W) : Blk vs b W.drew := h.same rfl (Nat.le_refl _)
set_option maxHeartbeats 8000000 in
set_option maxRecDepth 100000 in
theorem wover_any (N D : Nat) (w : World) (hN : N < 340282366920938463463374607431768211456) (hD : 0 < D) (hD1 : D ≤ 170141183460469231731687303715884105728) :
    Calls Tryz.prog 126 #[usz N, usz D] w fun e w' => e = .returned (.tuple #[usz (N / D : Nat), usz (N % D : Nat)]) ∧ Below w.heap.size w w' := by
  obtain ⟨t0, t1⟩ := qr_top (D := D) hN
  obtain ⟨n0, n1⟩ := qr_end N D
  have HE0 := Lib.hid n0
  have HE1 := Lib.hid n1
  have ST := Lib.hid fun i => ov_step (i := i) hN hD hD1
  have BL := Lib.hid fun i (h : i < 64) => bit_low (N := N) h
  have BH := Lib.hid fun j => bit_high (j := j) hN
  clear n0 n1 hN hD hD1
  unfold usz
  have KS := Lib.hid ((((Blk.of (vs := #[.int .u64 (hiW (N : Int)), .int .u64 (loW (N : Int))]) (t := 153) (w := w) (b := w.heap.size) (by simp)).alloc (.cells #[.int .u64 (hiW (D : Int)), .int .u64 (loW (D : Int))] 153)).alloc (.cells #[.int .u64 0, .int .u64 0] 153)).alloc (.cells #[.int .u64 0, .int .u64 0] 153))
  have KD := Lib.hid (((Blk.of (vs := #[.int .u64 (hiW (D : Int)), .int .u64 (loW (D : Int))]) (t := 153) (w := (w.alloc (.cells #[.int .u64 (hiW (N : Int)), .int .u64 (loW (N : Int))] 153))) (b := w.heap.size + 1) (by simp)).alloc (.cells #[.int .u64 0, .int .u64 0] 153)).alloc (.cells #[.int .u64 0, .int .u64 0] 153))
  have KQ := Lib.hid ((Blk.of (vs := #[.int .u64 0, .int .u64 0]) (t := 153) (w := ((w.alloc (.cells #[.int .u64 (hiW (N : Int)), .int .u64 (loW (N : Int))] 153)).alloc (.cells #[.int .u64 (hiW (D : Int)), .int .u64 (loW (D : Int))] 153))) (b := w.heap.size + 1 + 1) (by simp)).alloc (.cells #[.int .u64 0, .int .u64 0] 153))
  have KR := Lib.hid (Blk.of (vs := #[.int .u64 0, .int .u64 0]) (t := 153) (w := (((w.alloc (.cells #[.int .u64 (hiW (N : Int)), .int .u64 (loW (N : Int))] 153)).alloc (.cells #[.int .u64 (hiW (D : Int)), .int .u64 (loW (D : Int))] 153)).alloc (.cells #[.int .u64 0, .int .u64 0] 153))) (b := w.heap.size + 1 + 1 + 1) (by simp))
  have HB := Lib.hid (((((Below.refl w.heap.size w).alloc (by simp; try omega) (.cells #[.int .u64 (hiW (N : Int)), .int .u64 (loW (N : Int))] 153)).alloc (by simp; try omega) (.cells #[.int .u64 (hiW (D : Int)), .int .u64 (loW (D : Int))] 153)).alloc (by simp; try omega) (.cells #[.int .u64 0, .int .u64 0] 153)).alloc (by simp; try omega) (.cells #[.int .u64 0, .int .u64 0] 153))
  go_enter Tryz.func126, Tryz.ntmps126
  go_wp2
  generalize (((w.alloc (.cells #[.int .u64 (hiW (N : Int)), .int .u64 (loW (N : Int))] 153)).alloc (.cells #[.int .u64 (hiW (D : Int)), .int .u64 (loW (D : Int))] 153)).alloc (.cells #[.int .u64 0, .int .u64 0] 153)).alloc (.cells #[.int .u64 0, .int .u64 0] 153) = w0 at *
  go_loopw [6] (OvR N D w) (fun v _ => (intOf v + 1).toNat)
  case atStart => exact ⟨128, 127, rfl, Lib.hid (by rfl), Nat.le_refl _, HB, KS, KD, by rw [t0]; exact KQ, by rw [t1]; exact KR⟩
  case round =>
    clear t0 t1
    obtain ⟨k, z, rfl, HZ, hk, HB, KS, KD, KQ, KR⟩ := hrel
    cases k with
    | zero =>
      have g : decide (0 ≤ z) = false := by have := HZ.out; simp; omega
      clear HZ
      have VQ : (qD N D 0 : Int) = ((N / D : Nat) : Int) := by rw [HE0.out]
      have VR : (rD N D 0 : Int) = ((N % D : Nat) : Int) := by rw [HE1.out]
      rw [VQ] at KQ
      rw [VR] at KR
      clear VQ VR
      obtain ⟨Q, hQ⟩ : ∃ Q, ((N / D : Nat) : Int) = Q := ⟨_, rfl⟩
      obtain ⟨R, hR⟩ : ∃ R, ((N % D : Nat) : Int) = R := ⟨_, rfl⟩
      rw [hQ] at KQ
      rw [hR] at KR
      have HQ := Lib.hid hQ
      have HR := Lib.hid hR
      clear hQ hR
      have yQ := KQ.out
      have yQ_0 := yQ.c 0 _ rfl
      have yQ_1 := yQ.c 1 _ rfl
      have yQ_z := yQ.lt
      have yQ_f0 := yQ.f 0 _ rfl
      have yQ_f1 := yQ.f 1 _ rfl
      clear yQ
      have yR := KR.out
      have yR_0 := yR.c 0 _ rfl
      have yR_1 := yR.c 1 _ rfl
      have yR_z := yR.lt
      have yR_f0 := yR.f 0 _ rfl
      have yR_f1 := yR.f 1 _ rfl
      clear yR
      go_wp2_with fail
      go_region
      replace KS := Lib.hid (blk_other (b := w.heap.size) (n := (w.heap.size + 1 + 1)) (j := 1) (blk_other (b := w.heap.size) (n := (w.heap.size + 1 + 1)) (j := 0) KS.out (by omega) (.int .u64 (hiW Q))) (by omega) (.int .u64 (loW Q)))
      replace KD := Lib.hid (blk_other (b := (w.heap.size + 1)) (n := (w.heap.size + 1 + 1)) (j := 1) (blk_other (b := (w.heap.size + 1)) (n := (w.heap.size + 1 + 1)) (j := 0) KD.out (by omega) (.int .u64 (hiW Q))) (by omega) (.int .u64 (loW Q)))
      replace KQ := Lib.hid (blk_set (blk_set KQ.out (j := 0) (by simp) (.int .u64 (hiW Q))) (j := 1) (by simp) (.int .u64 (loW Q)))
      replace KR := Lib.hid (blk_other (b := (w.heap.size + 1 + 1 + 1)) (n := (w.heap.size + 1 + 1)) (j := 1) (blk_other (b := (w.heap.size + 1 + 1 + 1)) (n := (w.heap.size + 1 + 1)) (j := 0) KR.out (by omega) (.int .u64 (hiW Q))) (by omega) (.int .u64 (loW Q)))
      replace HB := Lib.hid ((HB.out.setCell (p := ⟨(w.heap.size + 1 + 1), 0, none⟩) (show w.heap.size ≤ (w.heap.size + 1 + 1) by omega) (.int .u64 (hiW Q))).setCell (p := ⟨(w.heap.size + 1 + 1), 1, none⟩) (show w.heap.size ≤ (w.heap.size + 1 + 1) by omega) (.int .u64 (loW Q)))
      clear yQ_0 yQ_1 yQ_z yQ_f0 yQ_f1 yR_0 yR_1 yR_z yR_f0 yR_f1
      simp only [List.set] at KQ
      replace KS := Lib.hid (blk_other (b := w.heap.size) (n := (w.heap.size + 1 + 1 + 1)) (j := 1) (blk_other (b := w.heap.size) (n := (w.heap.size + 1 + 1 + 1)) (j := 0) KS.out (by omega) (.int .u64 (hiW R))) (by omega) (.int .u64 (loW R)))
      replace KD := Lib.hid (blk_other (b := (w.heap.size + 1)) (n := (w.heap.size + 1 + 1 + 1)) (j := 1) (blk_other (b := (w.heap.size + 1)) (n := (w.heap.size + 1 + 1 + 1)) (j := 0) KD.out (by omega) (.int .u64 (hiW R))) (by omega) (.int .u64 (loW R)))
      replace KQ := Lib.hid (blk_other (b := (w.heap.size + 1 + 1)) (n := (w.heap.size + 1 + 1 + 1)) (j := 1) (blk_other (b := (w.heap.size + 1 + 1)) (n := (w.heap.size + 1 + 1 + 1)) (j := 0) KQ.out (by omega) (.int .u64 (hiW R))) (by omega) (.int .u64 (loW R)))
      replace KR := Lib.hid (blk_set (blk_set KR.out (j := 0) (by simp) (.int .u64 (hiW R))) (j := 1) (by simp) (.int .u64 (loW R)))
      replace HB := Lib.hid ((HB.out.setCell (p := ⟨(w.heap.size + 1 + 1 + 1), 0, none⟩) (show w.heap.size ≤ (w.heap.size + 1 + 1 + 1) by omega) (.int .u64 (hiW R))).setCell (p := ⟨(w.heap.size + 1 + 1 + 1), 1, none⟩) (show w.heap.size ≤ (w.heap.size + 1 + 1 + 1) by omega) (.int .u64 (loW R)))
      simp only [List.set] at KR
      replace KS := Lib.hid (blk_drew1 KS.out)
      replace KD := Lib.hid (blk_drew1 KD.out)
      replace KQ := Lib.hid (blk_drew1 KQ.out)
      replace KR := Lib.hid (blk_drew1 KR.out)
      replace HB := Lib.hid (below_drew1 HB.out)
      generalize (((((wr.setCell ⟨(w.heap.size + 1 + 1), 0, none⟩ (.int .u64 (hiW Q))).setCell ⟨(w.heap.size + 1 + 1), 1, none⟩ (.int .u64 (loW Q))).setCell ⟨(w.heap.size + 1 + 1 + 1), 0, none⟩ (.int .u64 (hiW R))).setCell ⟨(w.heap.size + 1 + 1 + 1), 1, none⟩ (.int .u64 (loW R)))).drew = w3 at *
      have yQ := KQ.out
      have yQ_0 := yQ.c 0 _ rfl
      have yQ_1 := yQ.c 1 _ rfl
      have yQ_z := yQ.lt
      clear yQ
      have yR := KR.out
      have yR_0 := yR.c 0 _ rfl
      have yR_1 := yR.c 1 _ rfl
      have yR_z := yR.lt
      clear yR
      go_wp2
      refine bodyPost_ret (v := .tuple #[.agg #[.int .u64 (hiW Q), .int .u64 (loW Q)], .agg #[.int .u64 (hiW R), .int .u64 (loW R)]]) (by simp [results, Tryz.results126, go_sem, yQ_0, yQ_1, yR_0, yR_1]) rfl ⟨by rw [HQ.out, HR.out], HB.out⟩
    | succ i =>
      have hz : z = (i : Int) := by have := HZ.out; omega
      subst hz
      clear HZ
      obtain ⟨R, Q, b, R', Q', eR, eQ, eb, eR', eQ', r0, r1, q0, q1, b0, b1, dp, dm, fin⟩ := ST.out i
      rw [← eR] at KR
      rw [← eQ] at KQ
      have eb0 := Lib.hid eb
      have HR' := Lib.hid eR'
      have HQ' := Lib.hid eQ'
      have TW := Lib.hid fun w => wtwice_any R b w r0 r1 b0 b1
      have TQ := Lib.hid fun w => wtwice_any Q 0 w q0 q1 (by omega) (by omega)
      have CM := Lib.hid fun w => wcmp_any (2 * R + b) (D : Int) w
      have LS := Lib.hid fun (h : (D : Int) ≤ 2 * R + b) w => wless_any (2 * R + b) (D : Int) w (by omega) h (by omega)
      have O1 := or1_u64 (q := Q) q0
      have O2 := Lib.hid (hi_odd (q := Q) q0)
      have g0 : decide (0 ≤ (i : Int)) = true := by simp
      have A63 := and_i64 i (by omega)
      have BL1 := BL.out i
      have BH1 := BH.out (i - 64)
      rw [← eb] at BL1
      have hk2 : i < 128 := by omega
      unfold usz at TW TQ CM LS
      simp only [Int.add_zero] at TQ
      clear hk eR eQ eb eR' eQ' ST BL BH HE0 HE1 r0 r1 q0 q1 b0 b1 dp dm
      generalize hd : (D : Int) = dd at *
      by_cases h64 : i < 64
      · rw [Nat.mod_eq_of_lt h64] at A63
        have BT := BL1 h64
        have g64 : decide (64 ≤ (i : Int)) = false := by simp; omega
        clear BL1 BH1
        rcases fin with ⟨f0, f1, f2⟩ | ⟨f0, f1, f2⟩
        · have LS2 := Lib.hid (LS.out f0)
          have gc : decide (0 ≤ cmpI (2 * R + b) dd) = true := by unfold cmpI; rw [if_neg (by omega)]; split <;> decide
          clear LS f0
          generalize cmpI (2 * R + b) dd = c at *
          have yS := KS.out
          have yS_0 := yS.c 0 _ rfl
          have yS_1 := yS.c 1 _ rfl
          have yS_z := yS.lt
          clear yS
          have yR := KR.out
          have yR_0 := yR.c 0 _ rfl
          have yR_1 := yR.c 1 _ rfl
          have yR_z := yR.lt
          have yR_f0 := yR.f 0 _ rfl
          have yR_f1 := yR.f 1 _ rfl
          clear yR
          go_wp2_with fail
          refine (TW.out _).mono ?_
          rintro e1 w1 ⟨rfl, hb1⟩
          replace HB := Lib.hid (HB.out.trans (hb1.mono HB.out.size))
          replace KS := Lib.hid (KS.out.below hb1)
          replace KD := Lib.hid (KD.out.below hb1)
          replace KQ := Lib.hid (KQ.out.below hb1)
          replace KR := Lib.hid (KR.out.below hb1)
          clear yS_0 yS_1 yS_z yR_0 yR_1 yR_z yR_f0 yR_f1
          clear hb1
          have yQ := KQ.out
          have yQ_0 := yQ.c 0 _ rfl
          have yQ_1 := yQ.c 1 _ rfl
          have yQ_z := yQ.lt
          have yQ_f0 := yQ.f 0 _ rfl
          have yQ_f1 := yQ.f 1 _ rfl
          clear yQ
          have yR := KR.out
          have yR_0 := yR.c 0 _ rfl
          have yR_1 := yR.c 1 _ rfl
          have yR_z := yR.lt
          have yR_f0 := yR.f 0 _ rfl
          have yR_f1 := yR.f 1 _ rfl
          clear yR
          go_wp2_with fail
          replace KS := Lib.hid (blk_other (b := w.heap.size) (n := (w.heap.size + 1 + 1 + 1)) (j := 1) (blk_other (b := w.heap.size) (n := (w.heap.size + 1 + 1 + 1)) (j := 0) KS.out (by omega) (.int .u64 (hiW (2 * R + b)))) (by omega) (.int .u64 (loW (2 * R + b))))
          replace KD := Lib.hid (blk_other (b := (w.heap.size + 1)) (n := (w.heap.size + 1 + 1 + 1)) (j := 1) (blk_other (b := (w.heap.size + 1)) (n := (w.heap.size + 1 + 1 + 1)) (j := 0) KD.out (by omega) (.int .u64 (hiW (2 * R + b)))) (by omega) (.int .u64 (loW (2 * R + b))))
          replace KQ := Lib.hid (blk_other (b := (w.heap.size + 1 + 1)) (n := (w.heap.size + 1 + 1 + 1)) (j := 1) (blk_other (b := (w.heap.size + 1 + 1)) (n := (w.heap.size + 1 + 1 + 1)) (j := 0) KQ.out (by omega) (.int .u64 (hiW (2 * R + b)))) (by omega) (.int .u64 (loW (2 * R + b))))
          replace KR := Lib.hid (blk_set (blk_set KR.out (j := 0) (by simp) (.int .u64 (hiW (2 * R + b)))) (j := 1) (by simp) (.int .u64 (loW (2 * R + b))))
          replace HB := Lib.hid ((HB.out.setCell (p := ⟨(w.heap.size + 1 + 1 + 1), 0, none⟩) (show w.heap.size ≤ (w.heap.size + 1 + 1 + 1) by omega) (.int .u64 (hiW (2 * R + b)))).setCell (p := ⟨(w.heap.size + 1 + 1 + 1), 1, none⟩) (show w.heap.size ≤ (w.heap.size + 1 + 1 + 1) by omega) (.int .u64 (loW (2 * R + b))))
          clear yQ_0 yQ_1 yQ_z yQ_f0 yQ_f1 yR_0 yR_1 yR_z yR_f0 yR_f1
          generalize (w1.setCell ⟨(w.heap.size + 1 + 1 + 1), 0, none⟩ (.int .u64 (hiW (2 * R + b)))).setCell ⟨(w.heap.size + 1 + 1 + 1), 1, none⟩ (.int .u64 (loW (2 * R + b))) = w2 at *
          simp only [List.set] at KR
          refine (TQ.out _).mono ?_
          rintro e3 w3 ⟨rfl, hb3⟩
          replace HB := Lib.hid (HB.out.trans (hb3.mono HB.out.size))
          replace KS := Lib.hid (KS.out.below hb3)
          replace KD := Lib.hid (KD.out.below hb3)
          replace KQ := Lib.hid (KQ.out.below hb3)
          replace KR := Lib.hid (KR.out.below hb3)
          clear hb3
          have yD := KD.out
          have yD_0 := yD.c 0 _ rfl
          have yD_1 := yD.c 1 _ rfl
          have yD_z := yD.lt
          clear yD
          have yQ := KQ.out
          have yQ_0 := yQ.c 0 _ rfl
          have yQ_1 := yQ.c 1 _ rfl
          have yQ_z := yQ.lt
          have yQ_f0 := yQ.f 0 _ rfl
          have yQ_f1 := yQ.f 1 _ rfl
          clear yQ
          have yR := KR.out
          have yR_0 := yR.c 0 _ rfl
          have yR_1 := yR.c 1 _ rfl
          have yR_z := yR.lt
          have yR_f0 := yR.f 0 _ rfl
          have yR_f1 := yR.f 1 _ rfl
          clear yR
          go_wp2_with fail
          replace KS := Lib.hid (blk_other (b := w.heap.size) (n := (w.heap.size + 1 + 1)) (j := 1) (blk_other (b := w.heap.size) (n := (w.heap.size + 1 + 1)) (j := 0) KS.out (by omega) (.int .u64 (hiW (2 * Q)))) (by omega) (.int .u64 (loW (2 * Q))))
          replace KD := Lib.hid (blk_other (b := (w.heap.size + 1)) (n := (w.heap.size + 1 + 1)) (j := 1) (blk_other (b := (w.heap.size + 1)) (n := (w.heap.size + 1 + 1)) (j := 0) KD.out (by omega) (.int .u64 (hiW (2 * Q)))) (by omega) (.int .u64 (loW (2 * Q))))
          replace KQ := Lib.hid (blk_set (blk_set KQ.out (j := 0) (by simp) (.int .u64 (hiW (2 * Q)))) (j := 1) (by simp) (.int .u64 (loW (2 * Q))))
          replace KR := Lib.hid (blk_other (b := (w.heap.size + 1 + 1 + 1)) (n := (w.heap.size + 1 + 1)) (j := 1) (blk_other (b := (w.heap.size + 1 + 1 + 1)) (n := (w.heap.size + 1 + 1)) (j := 0) KR.out (by omega) (.int .u64 (hiW (2 * Q)))) (by omega) (.int .u64 (loW (2 * Q))))
          replace HB := Lib.hid ((HB.out.setCell (p := ⟨(w.heap.size + 1 + 1), 0, none⟩) (show w.heap.size ≤ (w.heap.size + 1 + 1) by omega) (.int .u64 (hiW (2 * Q)))).setCell (p := ⟨(w.heap.size + 1 + 1), 1, none⟩) (show w.heap.size ≤ (w.heap.size + 1 + 1) by omega) (.int .u64 (loW (2 * Q))))
          clear yD_0 yD_1 yD_z yQ_0 yQ_1 yQ_z yQ_f0 yQ_f1 yR_0 yR_1 yR_z yR_f0 yR_f1
          generalize (w3.setCell ⟨(w.heap.size + 1 + 1), 0, none⟩ (.int .u64 (hiW (2 * Q)))).setCell ⟨(w.heap.size + 1 + 1), 1, none⟩ (.int .u64 (loW (2 * Q))) = w4 at *
          simp only [List.set] at KQ
          refine (CM.out _).mono ?_
          rintro e5 w5 ⟨rfl, hb5⟩
          replace HB := Lib.hid (HB.out.trans (hb5.mono HB.out.size))
          replace KS := Lib.hid (KS.out.below hb5)
          replace KD := Lib.hid (KD.out.below hb5)
          replace KQ := Lib.hid (KQ.out.below hb5)
          replace KR := Lib.hid (KR.out.below hb5)
          clear hb5
          have yD := KD.out
          have yD_0 := yD.c 0 _ rfl
          have yD_1 := yD.c 1 _ rfl
          have yD_z := yD.lt
          clear yD
          have yQ := KQ.out
          have yQ_0 := yQ.c 0 _ rfl
          have yQ_1 := yQ.c 1 _ rfl
          have yQ_z := yQ.lt
          have yQ_f0 := yQ.f 0 _ rfl
          have yQ_f1 := yQ.f 1 _ rfl
          clear yQ
          have yR := KR.out
          have yR_0 := yR.c 0 _ rfl
          have yR_1 := yR.c 1 _ rfl
          have yR_z := yR.lt
          have yR_f0 := yR.f 0 _ rfl
          have yR_f1 := yR.f 1 _ rfl
          clear yR
          go_wp2_with fail
          refine (LS2.out _).mono ?_
          rintro e6 w6 ⟨rfl, hb6⟩
          replace HB := Lib.hid (HB.out.trans (hb6.mono HB.out.size))
          replace KS := Lib.hid (KS.out.below hb6)
          replace KD := Lib.hid (KD.out.below hb6)
          replace KQ := Lib.hid (KQ.out.below hb6)
          replace KR := Lib.hid (KR.out.below hb6)
          clear yD_0 yD_1 yD_z yQ_0 yQ_1 yQ_z yQ_f0 yQ_f1 yR_0 yR_1 yR_z yR_f0 yR_f1
          clear hb6
          have yQ := KQ.out
          have yQ_0 := yQ.c 0 _ rfl
          have yQ_1 := yQ.c 1 _ rfl
          have yQ_z := yQ.lt
          have yQ_f0 := yQ.f 0 _ rfl
          have yQ_f1 := yQ.f 1 _ rfl
          clear yQ
          have yR := KR.out
          have yR_0 := yR.c 0 _ rfl
          have yR_1 := yR.c 1 _ rfl
          have yR_z := yR.lt
          have yR_f0 := yR.f 0 _ rfl
          have yR_f1 := yR.f 1 _ rfl
          clear yR
          go_wp2
          replace KS := Lib.hid (blk_other (b := w.heap.size) (n := (w.heap.size + 1 + 1 + 1)) (j := 1) (blk_other (b := w.heap.size) (n := (w.heap.size + 1 + 1 + 1)) (j := 0) KS.out (by omega) (.int .u64 (hiW (2 * R + b - dd)))) (by omega) (.int .u64 (loW (2 * R + b - dd))))
          replace KD := Lib.hid (blk_other (b := (w.heap.size + 1)) (n := (w.heap.size + 1 + 1 + 1)) (j := 1) (blk_other (b := (w.heap.size + 1)) (n := (w.heap.size + 1 + 1 + 1)) (j := 0) KD.out (by omega) (.int .u64 (hiW (2 * R + b - dd)))) (by omega) (.int .u64 (loW (2 * R + b - dd))))
          replace KQ := Lib.hid (blk_other (b := (w.heap.size + 1 + 1)) (n := (w.heap.size + 1 + 1 + 1)) (j := 1) (blk_other (b := (w.heap.size + 1 + 1)) (n := (w.heap.size + 1 + 1 + 1)) (j := 0) KQ.out (by omega) (.int .u64 (hiW (2 * R + b - dd)))) (by omega) (.int .u64 (loW (2 * R + b - dd))))
          replace KR := Lib.hid (blk_set (blk_set KR.out (j := 0) (by simp) (.int .u64 (hiW (2 * R + b - dd)))) (j := 1) (by simp) (.int .u64 (loW (2 * R + b - dd))))
          replace HB := Lib.hid ((HB.out.setCell (p := ⟨(w.heap.size + 1 + 1 + 1), 0, none⟩) (show w.heap.size ≤ (w.heap.size + 1 + 1 + 1) by omega) (.int .u64 (hiW (2 * R + b - dd)))).setCell (p := ⟨(w.heap.size + 1 + 1 + 1), 1, none⟩) (show w.heap.size ≤ (w.heap.size + 1 + 1 + 1) by omega) (.int .u64 (loW (2 * R + b - dd))))
          clear yQ_0 yQ_1 yQ_z yQ_f0 yQ_f1 yR_0 yR_1 yR_z yR_f0 yR_f1
          generalize (w6.setCell ⟨(w.heap.size + 1 + 1 + 1), 0, none⟩ (.int .u64 (hiW (2 * R + b - dd)))).setCell ⟨(w.heap.size + 1 + 1 + 1), 1, none⟩ (.int .u64 (loW (2 * R + b - dd))) = w7 at *
          simp only [List.set] at KR
          replace KS := Lib.hid (blk_other (b := w.heap.size) (n := (w.heap.size + 1 + 1)) (j := 1) KS.out (by omega) (.int .u64 (loW (2 * Q + 1))))
          replace KD := Lib.hid (blk_other (b := (w.heap.size + 1)) (n := (w.heap.size + 1 + 1)) (j := 1) KD.out (by omega) (.int .u64 (loW (2 * Q + 1))))
          replace KQ := Lib.hid (blk_set KQ.out (j := 1) (by simp) (.int .u64 (loW (2 * Q + 1))))
          replace KR := Lib.hid (blk_other (b := (w.heap.size + 1 + 1 + 1)) (n := (w.heap.size + 1 + 1)) (j := 1) KR.out (by omega) (.int .u64 (loW (2 * Q + 1))))
          replace HB := Lib.hid (HB.out.setCell (p := ⟨(w.heap.size + 1 + 1), 1, none⟩) (show w.heap.size ≤ (w.heap.size + 1 + 1) by omega) (.int .u64 (loW (2 * Q + 1))))
          generalize w7.setCell ⟨(w.heap.size + 1 + 1), 1, none⟩ (.int .u64 (loW (2 * Q + 1))) = w8 at *
          simp only [List.set] at KQ
          subst hd
          rw [O2.out] at KQ
          rw [← f1, HQ'.out] at KQ
          rw [← f2, HR'.out] at KR
          exact ⟨⟨_, _, rfl, Lib.hid (by omega), by omega, HB, KS, KD, KQ, KR⟩, by simp [intOf]; try omega⟩
        · have gc : decide (0 ≤ cmpI (2 * R + b) dd) = false := by unfold cmpI; rw [if_pos (by omega)]; decide
          clear LS f0
          generalize cmpI (2 * R + b) dd = c at *
          have yS := KS.out
          have yS_0 := yS.c 0 _ rfl
          have yS_1 := yS.c 1 _ rfl
          have yS_z := yS.lt
          clear yS
          have yR := KR.out
          have yR_0 := yR.c 0 _ rfl
          have yR_1 := yR.c 1 _ rfl
          have yR_z := yR.lt
          have yR_f0 := yR.f 0 _ rfl
          have yR_f1 := yR.f 1 _ rfl
          clear yR
          go_wp2_with fail
          refine (TW.out _).mono ?_
          rintro e1 w1 ⟨rfl, hb1⟩
          replace HB := Lib.hid (HB.out.trans (hb1.mono HB.out.size))
          replace KS := Lib.hid (KS.out.below hb1)
          replace KD := Lib.hid (KD.out.below hb1)
          replace KQ := Lib.hid (KQ.out.below hb1)
          replace KR := Lib.hid (KR.out.below hb1)
          clear yS_0 yS_1 yS_z yR_0 yR_1 yR_z yR_f0 yR_f1
          clear hb1
          have yQ := KQ.out
          have yQ_0 := yQ.c 0 _ rfl
          have yQ_1 := yQ.c 1 _ rfl
          have yQ_z := yQ.lt
          have yQ_f0 := yQ.f 0 _ rfl
          have yQ_f1 := yQ.f 1 _ rfl
          clear yQ
          have yR := KR.out
          have yR_0 := yR.c 0 _ rfl
          have yR_1 := yR.c 1 _ rfl
          have yR_z := yR.lt
          have yR_f0 := yR.f 0 _ rfl
          have yR_f1 := yR.f 1 _ rfl
          clear yR
          go_wp2_with fail
          replace KS := Lib.hid (blk_other (b := w.heap.size) (n := (w.heap.size + 1 + 1 + 1)) (j := 1) (blk_other (b := w.heap.size) (n := (w.heap.size + 1 + 1 + 1)) (j := 0) KS.out (by omega) (.int .u64 (hiW (2 * R + b)))) (by omega) (.int .u64 (loW (2 * R + b))))
          replace KD := Lib.hid (blk_other (b := (w.heap.size + 1)) (n := (w.heap.size + 1 + 1 + 1)) (j := 1) (blk_other (b := (w.heap.size + 1)) (n := (w.heap.size + 1 + 1 + 1)) (j := 0) KD.out (by omega) (.int .u64 (hiW (2 * R + b)))) (by omega) (.int .u64 (loW (2 * R + b))))
          replace KQ := Lib.hid (blk_other (b := (w.heap.size + 1 + 1)) (n := (w.heap.size + 1 + 1 + 1)) (j := 1) (blk_other (b := (w.heap.size + 1 + 1)) (n := (w.heap.size + 1 + 1 + 1)) (j := 0) KQ.out (by omega) (.int .u64 (hiW (2 * R + b)))) (by omega) (.int .u64 (loW (2 * R + b))))
          replace KR := Lib.hid (blk_set (blk_set KR.out (j := 0) (by simp) (.int .u64 (hiW (2 * R + b)))) (j := 1) (by simp) (.int .u64 (loW (2 * R + b))))
          replace HB := Lib.hid ((HB.out.setCell (p := ⟨(w.heap.size + 1 + 1 + 1), 0, none⟩) (show w.heap.size ≤ (w.heap.size + 1 + 1 + 1) by omega) (.int .u64 (hiW (2 * R + b)))).setCell (p := ⟨(w.heap.size + 1 + 1 + 1), 1, none⟩) (show w.heap.size ≤ (w.heap.size + 1 + 1 + 1) by omega) (.int .u64 (loW (2 * R + b))))
          clear yQ_0 yQ_1 yQ_z yQ_f0 yQ_f1 yR_0 yR_1 yR_z yR_f0 yR_f1
          generalize (w1.setCell ⟨(w.heap.size + 1 + 1 + 1), 0, none⟩ (.int .u64 (hiW (2 * R + b)))).setCell ⟨(w.heap.size + 1 + 1 + 1), 1, none⟩ (.int .u64 (loW (2 * R + b))) = w2 at *
          simp only [List.set] at KR
          refine (TQ.out _).mono ?_
          rintro e3 w3 ⟨rfl, hb3⟩
          replace HB := Lib.hid (HB.out.trans (hb3.mono HB.out.size))
          replace KS := Lib.hid (KS.out.below hb3)
          replace KD := Lib.hid (KD.out.below hb3)
          replace KQ := Lib.hid (KQ.out.below hb3)
          replace KR := Lib.hid (KR.out.below hb3)
          clear hb3
          have yD := KD.out
          have yD_0 := yD.c 0 _ rfl
          have yD_1 := yD.c 1 _ rfl
          have yD_z := yD.lt
          clear yD
          have yQ := KQ.out
          have yQ_0 := yQ.c 0 _ rfl
          have yQ_1 := yQ.c 1 _ rfl
          have yQ_z := yQ.lt
          have yQ_f0 := yQ.f 0 _ rfl
          have yQ_f1 := yQ.f 1 _ rfl
          clear yQ
          have yR := KR.out
          have yR_0 := yR.c 0 _ rfl
          have yR_1 := yR.c 1 _ rfl
          have yR_z := yR.lt
          have yR_f0 := yR.f 0 _ rfl
          have yR_f1 := yR.f 1 _ rfl
          clear yR
          go_wp2_with fail
          replace KS := Lib.hid (blk_other (b := w.heap.size) (n := (w.heap.size + 1 + 1)) (j := 1) (blk_other (b := w.heap.size) (n := (w.heap.size + 1 + 1)) (j := 0) KS.out (by omega) (.int .u64 (hiW (2 * Q)))) (by omega) (.int .u64 (loW (2 * Q))))
          replace KD := Lib.hid (blk_other (b := (w.heap.size + 1)) (n := (w.heap.size + 1 + 1)) (j := 1) (blk_other (b := (w.heap.size + 1)) (n := (w.heap.size + 1 + 1)) (j := 0) KD.out (by omega) (.int .u64 (hiW (2 * Q)))) (by omega) (.int .u64 (loW (2 * Q))))
          replace KQ := Lib.hid (blk_set (blk_set KQ.out (j := 0) (by simp) (.int .u64 (hiW (2 * Q)))) (j := 1) (by simp) (.int .u64 (loW (2 * Q))))
          replace KR := Lib.hid (blk_other (b := (w.heap.size + 1 + 1 + 1)) (n := (w.heap.size + 1 + 1)) (j := 1) (blk_other (b := (w.heap.size + 1 + 1 + 1)) (n := (w.heap.size + 1 + 1)) (j := 0) KR.out (by omega) (.int .u64 (hiW (2 * Q)))) (by omega) (.int .u64 (loW (2 * Q))))
          replace HB := Lib.hid ((HB.out.setCell (p := ⟨(w.heap.size + 1 + 1), 0, none⟩) (show w.heap.size ≤ (w.heap.size + 1 + 1) by omega) (.int .u64 (hiW (2 * Q)))).setCell (p := ⟨(w.heap.size + 1 + 1), 1, none⟩) (show w.heap.size ≤ (w.heap.size + 1 + 1) by omega) (.int .u64 (loW (2 * Q))))
          clear yD_0 yD_1 yD_z yQ_0 yQ_1 yQ_z yQ_f0 yQ_f1 yR_0 yR_1 yR_z yR_f0 yR_f1
          generalize (w3.setCell ⟨(w.heap.size + 1 + 1), 0, none⟩ (.int .u64 (hiW (2 * Q)))).setCell ⟨(w.heap.size + 1 + 1), 1, none⟩ (.int .u64 (loW (2 * Q))) = w4 at *
          simp only [List.set] at KQ
          refine (CM.out _).mono ?_
          rintro e5 w5 ⟨rfl, hb5⟩
          replace HB := Lib.hid (HB.out.trans (hb5.mono HB.out.size))
          replace KS := Lib.hid (KS.out.below hb5)
          replace KD := Lib.hid (KD.out.below hb5)
          replace KQ := Lib.hid (KQ.out.below hb5)
          replace KR := Lib.hid (KR.out.below hb5)
          clear hb5
          have yD := KD.out
          have yD_0 := yD.c 0 _ rfl
          have yD_1 := yD.c 1 _ rfl
          have yD_z := yD.lt
          clear yD
          have yQ := KQ.out
          have yQ_0 := yQ.c 0 _ rfl
          have yQ_1 := yQ.c 1 _ rfl
          have yQ_z := yQ.lt
          have yQ_f0 := yQ.f 0 _ rfl
          have yQ_f1 := yQ.f 1 _ rfl
          clear yQ
          have yR := KR.out
          have yR_0 := yR.c 0 _ rfl
          have yR_1 := yR.c 1 _ rfl
          have yR_z := yR.lt
          have yR_f0 := yR.f 0 _ rfl
          have yR_f1 := yR.f 1 _ rfl
          clear yR
          go_wp2
          clear yD_0 yD_1 yD_z yQ_0 yQ_1 yQ_z yQ_f0 yQ_f1 yR_0 yR_1 yR_z yR_f0 yR_f1
          subst hd
          skip
          rw [← f1, HQ'.out] at KQ
          rw [← f2, HR'.out] at KR
          exact ⟨⟨_, _, rfl, Lib.hid (by omega), by omega, HB, KS, KD, KQ, KR⟩, by simp [intOf]; try omega⟩
      · obtain ⟨j, rfl⟩ : ∃ j, i = j + 64 := ⟨i - 64, by omega⟩
        have A : bits .and .i64 ((j : Int) + 64) 63 = (j : Int) := by rw [show ((j : Int) + 64) = ((j + 64 : Nat) : Int) by omega, A63]; omega
        have BT : bits .and .u64 (hiW (N : Int) / 2 ^ j) 1 = b := by rw [eb0.out]; have := BH1; rwa [show j + 64 - 64 = j by omega] at this
        simp only [Int.natCast_add, Int.cast_ofNat_Int] at g0
        have g64 : decide (64 ≤ (j : Int) + 64) = true := decide_eq_true (by omega)
        clear BL1 BH1 A63 h64
        rcases fin with ⟨f0, f1, f2⟩ | ⟨f0, f1, f2⟩
        · have LS2 := Lib.hid (LS.out f0)
          have gc : decide (0 ≤ cmpI (2 * R + b) dd) = true := by unfold cmpI; rw [if_neg (by omega)]; split <;> decide
          clear LS f0
          generalize cmpI (2 * R + b) dd = c at *
          have yS := KS.out
          have yS_0 := yS.c 0 _ rfl
          have yS_1 := yS.c 1 _ rfl
          have yS_z := yS.lt
          clear yS
          have yR := KR.out
          have yR_0 := yR.c 0 _ rfl
          have yR_1 := yR.c 1 _ rfl
          have yR_z := yR.lt
          have yR_f0 := yR.f 0 _ rfl
          have yR_f1 := yR.f 1 _ rfl
          clear yR
          go_wp2_with fail
          refine (TW.out _).mono ?_
          rintro e1 w1 ⟨rfl, hb1⟩
          replace HB := Lib.hid (HB.out.trans (hb1.mono HB.out.size))
          replace KS := Lib.hid (KS.out.below hb1)
          replace KD := Lib.hid (KD.out.below hb1)
          replace KQ := Lib.hid (KQ.out.below hb1)
          replace KR := Lib.hid (KR.out.below hb1)
          clear yS_0 yS_1 yS_z yR_0 yR_1 yR_z yR_f0 yR_f1
          clear hb1
          have yQ := KQ.out
          have yQ_0 := yQ.c 0 _ rfl
          have yQ_1 := yQ.c 1 _ rfl
          have yQ_z := yQ.lt
          have yQ_f0 := yQ.f 0 _ rfl
          have yQ_f1 := yQ.f 1 _ rfl
          clear yQ
          have yR := KR.out
          have yR_0 := yR.c 0 _ rfl
          have yR_1 := yR.c 1 _ rfl
          have yR_z := yR.lt
          have yR_f0 := yR.f 0 _ rfl
          have yR_f1 := yR.f 1 _ rfl
          clear yR
          go_wp2_with fail
          replace KS := Lib.hid (blk_other (b := w.heap.size) (n := (w.heap.size + 1 + 1 + 1)) (j := 1) (blk_other (b := w.heap.size) (n := (w.heap.size + 1 + 1 + 1)) (j := 0) KS.out (by omega) (.int .u64 (hiW (2 * R + b)))) (by omega) (.int .u64 (loW (2 * R + b))))
          replace KD := Lib.hid (blk_other (b := (w.heap.size + 1)) (n := (w.heap.size + 1 + 1 + 1)) (j := 1) (blk_other (b := (w.heap.size + 1)) (n := (w.heap.size + 1 + 1 + 1)) (j := 0) KD.out (by omega) (.int .u64 (hiW (2 * R + b)))) (by omega) (.int .u64 (loW (2 * R + b))))
          replace KQ := Lib.hid (blk_other (b := (w.heap.size + 1 + 1)) (n := (w.heap.size + 1 + 1 + 1)) (j := 1) (blk_other (b := (w.heap.size + 1 + 1)) (n := (w.heap.size + 1 + 1 + 1)) (j := 0) KQ.out (by omega) (.int .u64 (hiW (2 * R + b)))) (by omega) (.int .u64 (loW (2 * R + b))))
          replace KR := Lib.hid (blk_set (blk_set KR.out (j := 0) (by simp) (.int .u64 (hiW (2 * R + b)))) (j := 1) (by simp) (.int .u64 (loW (2 * R + b))))
          replace HB := Lib.hid ((HB.out.setCell (p := ⟨(w.heap.size + 1 + 1 + 1), 0, none⟩) (show w.heap.size ≤ (w.heap.size + 1 + 1 + 1) by omega) (.int .u64 (hiW (2 * R + b)))).setCell (p := ⟨(w.heap.size + 1 + 1 + 1), 1, none⟩) (show w.heap.size ≤ (w.heap.size + 1 + 1 + 1) by omega) (.int .u64 (loW (2 * R + b))))
          clear yQ_0 yQ_1 yQ_z yQ_f0 yQ_f1 yR_0 yR_1 yR_z yR_f0 yR_f1
          generalize (w1.setCell ⟨(w.heap.size + 1 + 1 + 1), 0, none⟩ (.int .u64 (hiW (2 * R + b)))).setCell ⟨(w.heap.size + 1 + 1 + 1), 1, none⟩ (.int .u64 (loW (2 * R + b))) = w2 at *
          simp only [List.set] at KR
          refine (TQ.out _).mono ?_
          rintro e3 w3 ⟨rfl, hb3⟩
          replace HB := Lib.hid (HB.out.trans (hb3.mono HB.out.size))
          replace KS := Lib.hid (KS.out.below hb3)
          replace KD := Lib.hid (KD.out.below hb3)
          replace KQ := Lib.hid (KQ.out.below hb3)
          replace KR := Lib.hid (KR.out.below hb3)
          clear hb3
          have yD := KD.out
          have yD_0 := yD.c 0 _ rfl
          have yD_1 := yD.c 1 _ rfl
          have yD_z := yD.lt
          clear yD
          have yQ := KQ.out
          have yQ_0 := yQ.c 0 _ rfl
          have yQ_1 := yQ.c 1 _ rfl
          have yQ_z := yQ.lt
          have yQ_f0 := yQ.f 0 _ rfl
          have yQ_f1 := yQ.f 1 _ rfl
          clear yQ
          have yR := KR.out
          have yR_0 := yR.c 0 _ rfl
          have yR_1 := yR.c 1 _ rfl
          have yR_z := yR.lt
          have yR_f0 := yR.f 0 _ rfl
          have yR_f1 := yR.f 1 _ rfl
          clear yR
          go_wp2_with fail
          replace KS := Lib.hid (blk_other (b := w.heap.size) (n := (w.heap.size + 1 + 1)) (j := 1) (blk_other (b := w.heap.size) (n := (w.heap.size + 1 + 1)) (j := 0) KS.out (by omega) (.int .u64 (hiW (2 * Q)))) (by omega) (.int .u64 (loW (2 * Q))))
          replace KD := Lib.hid (blk_other (b := (w.heap.size + 1)) (n := (w.heap.size + 1 + 1)) (j := 1) (blk_other (b := (w.heap.size + 1)) (n := (w.heap.size + 1 + 1)) (j := 0) KD.out (by omega) (.int .u64 (hiW (2 * Q)))) (by omega) (.int .u64 (loW (2 * Q))))
          replace KQ := Lib.hid (blk_set (blk_set KQ.out (j := 0) (by simp) (.int .u64 (hiW (2 * Q)))) (j := 1) (by simp) (.int .u64 (loW (2 * Q))))
          replace KR := Lib.hid (blk_other (b := (w.heap.size + 1 + 1 + 1)) (n := (w.heap.size + 1 + 1)) (j := 1) (blk_other (b := (w.heap.size + 1 + 1 + 1)) (n := (w.heap.size + 1 + 1)) (j := 0) KR.out (by omega) (.int .u64 (hiW (2 * Q)))) (by omega) (.int .u64 (loW (2 * Q))))
          replace HB := Lib.hid ((HB.out.setCell (p := ⟨(w.heap.size + 1 + 1), 0, none⟩) (show w.heap.size ≤ (w.heap.size + 1 + 1) by omega) (.int .u64 (hiW (2 * Q)))).setCell (p := ⟨(w.heap.size + 1 + 1), 1, none⟩) (show w.heap.size ≤ (w.heap.size + 1 + 1) by omega) (.int .u64 (loW (2 * Q))))
          clear yD_0 yD_1 yD_z yQ_0 yQ_1 yQ_z yQ_f0 yQ_f1 yR_0 yR_1 yR_z yR_f0 yR_f1
          generalize (w3.setCell ⟨(w.heap.size + 1 + 1), 0, none⟩ (.int .u64 (hiW (2 * Q)))).setCell ⟨(w.heap.size + 1 + 1), 1, none⟩ (.int .u64 (loW (2 * Q))) = w4 at *
          simp only [List.set] at KQ
          refine (CM.out _).mono ?_
          rintro e5 w5 ⟨rfl, hb5⟩
          replace HB := Lib.hid (HB.out.trans (hb5.mono HB.out.size))
          replace KS := Lib.hid (KS.out.below hb5)
          replace KD := Lib.hid (KD.out.below hb5)
          replace KQ := Lib.hid (KQ.out.below hb5)
          replace KR := Lib.hid (KR.out.below hb5)
          clear hb5
          have yD := KD.out
          have yD_0 := yD.c 0 _ rfl
          have yD_1 := yD.c 1 _ rfl
          have yD_z := yD.lt
          clear yD
          have yQ := KQ.out
          have yQ_0 := yQ.c 0 _ rfl
          have yQ_1 := yQ.c 1 _ rfl
          have yQ_z := yQ.lt
          have yQ_f0 := yQ.f 0 _ rfl
          have yQ_f1 := yQ.f 1 _ rfl
          clear yQ
          have yR := KR.out
          have yR_0 := yR.c 0 _ rfl
          have yR_1 := yR.c 1 _ rfl
          have yR_z := yR.lt
          have yR_f0 := yR.f 0 _ rfl
          have yR_f1 := yR.f 1 _ rfl
          clear yR
          go_wp2_with fail
          refine (LS2.out _).mono ?_
          rintro e6 w6 ⟨rfl, hb6⟩
          replace HB := Lib.hid (HB.out.trans (hb6.mono HB.out.size))
          replace KS := Lib.hid (KS.out.below hb6)
          replace KD := Lib.hid (KD.out.below hb6)
          replace KQ := Lib.hid (KQ.out.below hb6)
          replace KR := Lib.hid (KR.out.below hb6)
          clear yD_0 yD_1 yD_z yQ_0 yQ_1 yQ_z yQ_f0 yQ_f1 yR_0 yR_1 yR_z yR_f0 yR_f1
          clear hb6
          have yQ := KQ.out
          have yQ_0 := yQ.c 0 _ rfl
          have yQ_1 := yQ.c 1 _ rfl
          have yQ_z := yQ.lt
          have yQ_f0 := yQ.f 0 _ rfl
          have yQ_f1 := yQ.f 1 _ rfl
          clear yQ
          have yR := KR.out
          have yR_0 := yR.c 0 _ rfl
          have yR_1 := yR.c 1 _ rfl
          have yR_z := yR.lt
          have yR_f0 := yR.f 0 _ rfl
          have yR_f1 := yR.f 1 _ rfl
          clear yR
          go_wp2
          replace KS := Lib.hid (blk_other (b := w.heap.size) (n := (w.heap.size + 1 + 1 + 1)) (j := 1) (blk_other (b := w.heap.size) (n := (w.heap.size + 1 + 1 + 1)) (j := 0) KS.out (by omega) (.int .u64 (hiW (2 * R + b - dd)))) (by omega) (.int .u64 (loW (2 * R + b - dd))))
          replace KD := Lib.hid (blk_other (b := (w.heap.size + 1)) (n := (w.heap.size + 1 + 1 + 1)) (j := 1) (blk_other (b := (w.heap.size + 1)) (n := (w.heap.size + 1 + 1 + 1)) (j := 0) KD.out (by omega) (.int .u64 (hiW (2 * R + b - dd)))) (by omega) (.int .u64 (loW (2 * R + b - dd))))
          replace KQ := Lib.hid (blk_other (b := (w.heap.size + 1 + 1)) (n := (w.heap.size + 1 + 1 + 1)) (j := 1) (blk_other (b := (w.heap.size + 1 + 1)) (n := (w.heap.size + 1 + 1 + 1)) (j := 0) KQ.out (by omega) (.int .u64 (hiW (2 * R + b - dd)))) (by omega) (.int .u64 (loW (2 * R + b - dd))))
          replace KR := Lib.hid (blk_set (blk_set KR.out (j := 0) (by simp) (.int .u64 (hiW (2 * R + b - dd)))) (j := 1) (by simp) (.int .u64 (loW (2 * R + b - dd))))
          replace HB := Lib.hid ((HB.out.setCell (p := ⟨(w.heap.size + 1 + 1 + 1), 0, none⟩) (show w.heap.size ≤ (w.heap.size + 1 + 1 + 1) by omega) (.int .u64 (hiW (2 * R + b - dd)))).setCell (p := ⟨(w.heap.size + 1 + 1 + 1), 1, none⟩) (show w.heap.size ≤ (w.heap.size + 1 + 1 + 1) by omega) (.int .u64 (loW (2 * R + b - dd))))
          clear yQ_0 yQ_1 yQ_z yQ_f0 yQ_f1 yR_0 yR_1 yR_z yR_f0 yR_f1
          generalize (w6.setCell ⟨(w.heap.size + 1 + 1 + 1), 0, none⟩ (.int .u64 (hiW (2 * R + b - dd)))).setCell ⟨(w.heap.size + 1 + 1 + 1), 1, none⟩ (.int .u64 (loW (2 * R + b - dd))) = w7 at *
          simp only [List.set] at KR
          replace KS := Lib.hid (blk_other (b := w.heap.size) (n := (w.heap.size + 1 + 1)) (j := 1) KS.out (by omega) (.int .u64 (loW (2 * Q + 1))))
          replace KD := Lib.hid (blk_other (b := (w.heap.size + 1)) (n := (w.heap.size + 1 + 1)) (j := 1) KD.out (by omega) (.int .u64 (loW (2 * Q + 1))))
          replace KQ := Lib.hid (blk_set KQ.out (j := 1) (by simp) (.int .u64 (loW (2 * Q + 1))))
          replace KR := Lib.hid (blk_other (b := (w.heap.size + 1 + 1 + 1)) (n := (w.heap.size + 1 + 1)) (j := 1) KR.out (by omega) (.int .u64 (loW (2 * Q + 1))))
          replace HB := Lib.hid (HB.out.setCell (p := ⟨(w.heap.size + 1 + 1), 1, none⟩) (show w.heap.size ≤ (w.heap.size + 1 + 1) by omega) (.int .u64 (loW (2 * Q + 1))))
          generalize w7.setCell ⟨(w.heap.size + 1 + 1), 1, none⟩ (.int .u64 (loW (2 * Q + 1))) = w8 at *
          simp only [List.set] at KQ
          subst hd
          rw [O2.out] at KQ
          rw [← f1, HQ'.out] at KQ
          rw [← f2, HR'.out] at KR
          exact ⟨⟨_, _, rfl, Lib.hid (by omega), by omega, HB, KS, KD, KQ, KR⟩, by simp [intOf]; try omega⟩
        · have gc : decide (0 ≤ cmpI (2 * R + b) dd) = false := by unfold cmpI; rw [if_pos (by omega)]; decide
          clear LS f0
          generalize cmpI (2 * R + b) dd = c at *
          have yS := KS.out
          have yS_0 := yS.c 0 _ rfl
          have yS_1 := yS.c 1 _ rfl
          have yS_z := yS.lt
          clear yS
          have yR := KR.out
          have yR_0 := yR.c 0 _ rfl
          have yR_1 := yR.c 1 _ rfl
          have yR_z := yR.lt
          have yR_f0 := yR.f 0 _ rfl
          have yR_f1 := yR.f 1 _ rfl
          clear yR
          go_wp2_with fail
          refine (TW.out _).mono ?_
          rintro e1 w1 ⟨rfl, hb1⟩
          replace HB := Lib.hid (HB.out.trans (hb1.mono HB.out.size))
          replace KS := Lib.hid (KS.out.below hb1)
          replace KD := Lib.hid (KD.out.below hb1)
          replace KQ := Lib.hid (KQ.out.below hb1)
          replace KR := Lib.hid (KR.out.below hb1)
          clear yS_0 yS_1 yS_z yR_0 yR_1 yR_z yR_f0 yR_f1
          clear hb1
          have yQ := KQ.out
          have yQ_0 := yQ.c 0 _ rfl
          have yQ_1 := yQ.c 1 _ rfl
          have yQ_z := yQ.lt
          have yQ_f0 := yQ.f 0 _ rfl
          have yQ_f1 := yQ.f 1 _ rfl
          clear yQ
          have yR := KR.out
          have yR_0 := yR.c 0 _ rfl
          have yR_1 := yR.c 1 _ rfl
          have yR_z := yR.lt
          have yR_f0 := yR.f 0 _ rfl
          have yR_f1 := yR.f 1 _ rfl
          clear yR
          go_wp2_with fail
          replace KS := Lib.hid (blk_other (b := w.heap.size) (n := (w.heap.size + 1 + 1 + 1)) (j := 1) (blk_other (b := w.heap.size) (n := (w.heap.size + 1 + 1 + 1)) (j := 0) KS.out (by omega) (.int .u64 (hiW (2 * R + b)))) (by omega) (.int .u64 (loW (2 * R + b))))
          replace KD := Lib.hid (blk_other (b := (w.heap.size + 1)) (n := (w.heap.size + 1 + 1 + 1)) (j := 1) (blk_other (b := (w.heap.size + 1)) (n := (w.heap.size + 1 + 1 + 1)) (j := 0) KD.out (by omega) (.int .u64 (hiW (2 * R + b)))) (by omega) (.int .u64 (loW (2 * R + b))))
          replace KQ := Lib.hid (blk_other (b := (w.heap.size + 1 + 1)) (n := (w.heap.size + 1 + 1 + 1)) (j := 1) (blk_other (b := (w.heap.size + 1 + 1)) (n := (w.heap.size + 1 + 1 + 1)) (j := 0) KQ.out (by omega) (.int .u64 (hiW (2 * R + b)))) (by omega) (.int .u64 (loW (2 * R + b))))
          replace KR := Lib.hid (blk_set (blk_set KR.out (j := 0) (by simp) (.int .u64 (hiW (2 * R + b)))) (j := 1) (by simp) (.int .u64 (loW (2 * R + b))))
          replace HB := Lib.hid ((HB.out.setCell (p := ⟨(w.heap.size + 1 + 1 + 1), 0, none⟩) (show w.heap.size ≤ (w.heap.size + 1 + 1 + 1) by omega) (.int .u64 (hiW (2 * R + b)))).setCell (p := ⟨(w.heap.size + 1 + 1 + 1), 1, none⟩) (show w.heap.size ≤ (w.heap.size + 1 + 1 + 1) by omega) (.int .u64 (loW (2 * R + b))))
          clear yQ_0 yQ_1 yQ_z yQ_f0 yQ_f1 yR_0 yR_1 yR_z yR_f0 yR_f1
          generalize (w1.setCell ⟨(w.heap.size + 1 + 1 + 1), 0, none⟩ (.int .u64 (hiW (2 * R + b)))).setCell ⟨(w.heap.size + 1 + 1 + 1), 1, none⟩ (.int .u64 (loW (2 * R + b))) = w2 at *
          simp only [List.set] at KR
          refine (TQ.out _).mono ?_
          rintro e3 w3 ⟨rfl, hb3⟩
          replace HB := Lib.hid (HB.out.trans (hb3.mono HB.out.size))
          replace KS := Lib.hid (KS.out.below hb3)
          replace KD := Lib.hid (KD.out.below hb3)
          replace KQ := Lib.hid (KQ.out.below hb3)
          replace KR := Lib.hid (KR.out.below hb3)
          clear hb3
          have yD := KD.out
          have yD_0 := yD.c 0 _ rfl
          have yD_1 := yD.c 1 _ rfl
          have yD_z := yD.lt
          clear yD
          have yQ := KQ.out
          have yQ_0 := yQ.c 0 _ rfl
          have yQ_1 := yQ.c 1 _ rfl
          have yQ_z := yQ.lt
          have yQ_f0 := yQ.f 0 _ rfl
          have yQ_f1 := yQ.f 1 _ rfl
          clear yQ
          have yR := KR.out
          have yR_0 := yR.c 0 _ rfl
          have yR_1 := yR.c 1 _ rfl
          have yR_z := yR.lt
          have yR_f0 := yR.f 0 _ rfl
          have yR_f1 := yR.f 1 _ rfl
          clear yR
          go_wp2_with fail
          replace KS := Lib.hid (blk_other (b := w.heap.size) (n := (w.heap.size + 1 + 1)) (j := 1) (blk_other (b := w.heap.size) (n := (w.heap.size + 1 + 1)) (j := 0) KS.out (by omega) (.int .u64 (hiW (2 * Q)))) (by omega) (.int .u64 (loW (2 * Q))))
          replace KD := Lib.hid (blk_other (b := (w.heap.size + 1)) (n := (w.heap.size + 1 + 1)) (j := 1) (blk_other (b := (w.heap.size + 1)) (n := (w.heap.size + 1 + 1)) (j := 0) KD.out (by omega) (.int .u64 (hiW (2 * Q)))) (by omega) (.int .u64 (loW (2 * Q))))
          replace KQ := Lib.hid (blk_set (blk_set KQ.out (j := 0) (by simp) (.int .u64 (hiW (2 * Q)))) (j := 1) (by simp) (.int .u64 (loW (2 * Q))))
          replace KR := Lib.hid (blk_other (b := (w.heap.size + 1 + 1 + 1)) (n := (w.heap.size + 1 + 1)) (j := 1) (blk_other (b := (w.heap.size + 1 + 1 + 1)) (n := (w.heap.size + 1 + 1)) (j := 0) KR.out (by omega) (.int .u64 (hiW (2 * Q)))) (by omega) (.int .u64 (loW (2 * Q))))
          replace HB := Lib.hid ((HB.out.setCell (p := ⟨(w.heap.size + 1 + 1), 0, none⟩) (show w.heap.size ≤ (w.heap.size + 1 + 1) by omega) (.int .u64 (hiW (2 * Q)))).setCell (p := ⟨(w.heap.size + 1 + 1), 1, none⟩) (show w.heap.size ≤ (w.heap.size + 1 + 1) by omega) (.int .u64 (loW (2 * Q))))
          clear yD_0 yD_1 yD_z yQ_0 yQ_1 yQ_z yQ_f0 yQ_f1 yR_0 yR_1 yR_z yR_f0 yR_f1
          generalize (w3.setCell ⟨(w.heap.size + 1 + 1), 0, none⟩ (.int .u64 (hiW (2 * Q)))).setCell ⟨(w.heap.size + 1 + 1), 1, none⟩ (.int .u64 (loW (2 * Q))) = w4 at *
          simp only [List.set] at KQ
          refine (CM.out _).mono ?_
          rintro e5 w5 ⟨rfl, hb5⟩
          replace HB := Lib.hid (HB.out.trans (hb5.mono HB.out.size))
          replace KS := Lib.hid (KS.out.below hb5)
          replace KD := Lib.hid (KD.out.below hb5)
          replace KQ := Lib.hid (KQ.out.below hb5)
          replace KR := Lib.hid (KR.out.below hb5)
          clear hb5
          have yD := KD.out
          have yD_0 := yD.c 0 _ rfl
          have yD_1 := yD.c 1 _ rfl
          have yD_z := yD.lt
          clear yD
          have yQ := KQ.out
          have yQ_0 := yQ.c 0 _ rfl
          have yQ_1 := yQ.c 1 _ rfl
          have yQ_z := yQ.lt
          have yQ_f0 := yQ.f 0 _ rfl
          have yQ_f1 := yQ.f 1 _ rfl
          clear yQ
          have yR := KR.out
          have yR_0 := yR.c 0 _ rfl
          have yR_1 := yR.c 1 _ rfl
          have yR_z := yR.lt
          have yR_f0 := yR.f 0 _ rfl
          have yR_f1 := yR.f 1 _ rfl
          clear yR
          go_wp2
          clear yD_0 yD_1 yD_z yQ_0 yQ_1 yQ_z yQ_f0 yQ_f1 yR_0 yR_1 yR_z yR_f0 yR_f1
          subst hd
          skip
          rw [← f1, HQ'.out] at KQ
          rw [← f2, HR'.out] at KR
          exact ⟨⟨_, _, rfl, Lib.hid (by omega), by omega, HB, KS, KD, KQ, KR⟩, by simp [intOf]; try omega⟩
end Go.Proofs.YtidelghgjibndaaGreat
namespace Go.Proofs.YtidelghgjibndaaGreat
set_option linter.unusedVariables false
theorem em_eq (n d : Int) : n = d * (n / d) + n % d := (Int.mul_ediv_add_emod n d).symm
theorem up_pos {x d : Int} (hd : 0 < d) : ceilI x d = x / d + (if x % d ≠ 0 then 1 else 0) := by
  have h0 := Int.emod_nonneg x (show d ≠ 0 by omega)
  have h1 := Int.emod_lt_of_pos x hd
  by_cases h : x % d = 0
  · rw [if_neg (by omega), Int.add_zero]
    exact ceil_pos0 hd (em_eq x d) h
  · rw [if_pos h]
    exact ceil_pos hd (em_eq x d) (by omega) h1
theorem near_posW {x d : Int} (hd : 0 < d) : nearI2 x d = x / d + (if d - x % d ≤ x % d then 1 else 0) := by
  have h0 := Int.emod_nonneg x (show d ≠ 0 by omega)
  have h1 := Int.emod_lt_of_pos x hd
  by_cases h : d - x % d ≤ x % d
  · rw [if_pos h]
    exact near_pos1 hd (em_eq x d) h h1
  · rw [if_neg h, Int.add_zero]
    exact near_pos0 hd (em_eq x d) h0 (by omega)
theorem near_negW {x d : Int} (hd : 0 < d) : nearI2 x d = -((-x) / d + (if d - (-x) % d < (-x) % d then 1 else 0)) := by
  have h0 := Int.emod_nonneg (-x) (show d ≠ 0 by omega)
  have h1 := Int.emod_lt_of_pos (-x) hd
  by_cases h : d - (-x) % d < (-x) % d
  · rw [if_pos h]
    have := near_neg1 (n := -x) hd (em_eq (-x) d) h h1
    rwa [Int.neg_neg] at this
  · rw [if_neg h, Int.add_zero]
    have := near_neg0 (n := -x) hd (em_eq (-x) d) h0 (by omega)
    rwa [Int.neg_neg] at this
end Go.Proofs.YtidelghgjibndaaGreat
