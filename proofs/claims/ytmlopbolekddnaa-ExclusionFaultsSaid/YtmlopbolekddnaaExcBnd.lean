/-
  The walk of layer 44's bounds: the least and greatest values at corners.
-/
import Derived.Test.YtmlopbolekddnaaExcCor
import Derived.Test.YtmlopbolekddnaaFixWraps44
namespace Go.Proofs.Ytmlopbolekddnaa
set_option linter.unusedVariables false
open Go.RowKit

def loF (a b : Int) (p : Cr) : Int := floorI (a * p.x + b * p.y) p.d
def hiF (a b : Int) (p : Cr) : Int := ceilI (a * p.x + b * p.y) p.d
def cr0 : Cr := ⟨0, 0, 0⟩
def nthC (l : List Cr) (i : Nat) : Cr := l.getD i cr0
/-- the bounds of the first k corners -/
def bndK (a b : Int) (l : List Cr) : Nat → Int × Int
  | 0 => (0, 0)
  | k + 1 => if k = 0 then (loF a b (nthC l 0), hiF a b (nthC l 0)) else (min (bndK a b l k).1 (loF a b (nthC l k)), max (bndK a b l k).2 (hiF a b (nthC l k)))
def bndF (a b : Int) (l : List Cr) : Int × Int := bndK a b l l.length
theorem nthC_mem {l : List Cr} {i : Nat} (h : i < l.length) : nthC l i ∈ l := by
  unfold nthC
  rw [List.getD_eq_getElem?_getD, List.getElem?_eq_getElem h]
  exact List.getElem_mem h
theorem nthC_eq {l : List Cr} {i : Nat} (h : i < l.length) : nthC l i = l[i] := by
  unfold nthC
  rw [List.getD_eq_getElem?_getD, List.getElem?_eq_getElem h]
  rfl
/-- the bounds are attained, and bound all -/
theorem bndK_is (a b : Int) (l : List Cr) (k : Nat) (hk : k ≤ l.length) (h0 : 0 < k) :
    (∃ p ∈ l, (bndK a b l k).1 = loF a b p) ∧ (∃ p ∈ l, (bndK a b l k).2 = hiF a b p) ∧ ∀ i, i < k → (bndK a b l k).1 ≤ loF a b (nthC l i) ∧ hiF a b (nthC l i) ≤ (bndK a b l k).2 := by
  induction k with
  | zero => exact absurd h0 (by decide)
  | succ k ih =>
    unfold bndK
    by_cases hz : k = 0
    · subst hz
      rw [if_pos rfl]
      refine ⟨⟨_, nthC_mem (by omega), rfl⟩, ⟨_, nthC_mem (by omega), rfl⟩, fun i hi => ?_⟩
      obtain rfl : i = 0 := by omega
      exact ⟨Int.le_refl _, Int.le_refl _⟩
    · rw [if_neg hz]
      obtain ⟨⟨p, hp, e1⟩, ⟨q, hq, e2⟩, h3⟩ := ih (by omega) (by omega)
      refine ⟨?_, ?_, fun i hi => ?_⟩
      · by_cases h : (bndK a b l k).1 ≤ loF a b (nthC l k)
        · exact ⟨p, hp, by show min _ _ = _; rw [Int.min_eq_left h]; exact e1⟩
        · exact ⟨_, nthC_mem (show k < l.length by omega), by show min _ _ = _; rw [Int.min_eq_right (by omega)]⟩
      · by_cases h : hiF a b (nthC l k) ≤ (bndK a b l k).2
        · exact ⟨q, hq, by show max _ _ = _; rw [Int.max_eq_left h]; exact e2⟩
        · exact ⟨_, nthC_mem (show k < l.length by omega), by show max _ _ = _; rw [Int.max_eq_right (by omega)]⟩
      · show min _ _ ≤ _ ∧ _ ≤ max _ _
        by_cases he : i = k
        · subst he
          exact ⟨Int.min_le_right _ _, Int.le_max_right _ _⟩
        · have := h3 i (by omega)
          exact ⟨Int.le_trans (Int.min_le_left _ _) this.1, Int.le_trans this.2 (Int.le_max_left _ _)⟩
structure IsBnd (a b : Int) (l : List Cr) (r : Int × Int) : Prop where
  lo : ∃ p ∈ l, r.1 = loF a b p
  hi : ∃ p ∈ l, r.2 = hiF a b p
  all : ∀ p ∈ l, r.1 ≤ loF a b p ∧ hiF a b p ≤ r.2
theorem bnd_is (a b : Int) {l : List Cr} (h : l ≠ []) : IsBnd a b l (bndF a b l) := by
  have hp : 0 < l.length := List.length_pos_iff.2 h
  obtain ⟨h1, h2, h3⟩ := bndK_is a b l l.length (Nat.le_refl _) hp
  refine ⟨h1, h2, fun p hp => ?_⟩
  obtain ⟨i, hi, rfl⟩ := List.getElem_of_mem hp
  rw [← nthC_eq hi]
  exact h3 i hi
theorem IsBnd.uniq {a b : Int} {l k : List Cr} {r s : Int × Int} (h : IsBnd a b l r) (g : IsBnd a b k s) (e : ∀ p, p ∈ l ↔ p ∈ k) : r = s := by
  obtain ⟨p, hp, e1⟩ := h.lo
  obtain ⟨q, hq, e2⟩ := g.lo
  obtain ⟨p', hp', e1'⟩ := h.hi
  obtain ⟨q', hq', e2'⟩ := g.hi
  have a1 := (g.all p ((e p).1 hp)).1
  have a2 := (h.all q ((e q).2 hq)).1
  have a3 := (g.all p' ((e p').1 hp')).2
  have a4 := (h.all q' ((e q').2 hq')).2
  exact Prod.ext (by omega) (by omega)
structure CrsAt (l : List Cr) (g : Nat) (w : World) : Prop where
  lt : g < w.heap.size
  c0 : ∀ i, i < l.length → w.cell? ⟨g, i * 3, none⟩ = some (.int .i64 (nthC l i).x)
  c1 : ∀ i, i < l.length → w.cell? ⟨g, i * 3 + 1, none⟩ = some (.int .i64 (nthC l i).y)
  c2 : ∀ i, i < l.length → w.cell? ⟨g, i * 3 + 2, none⟩ = some (.int .i64 (nthC l i).d)
theorem CrsAt.below {l : List Cr} {g : Nat} {w w' : World} (h : CrsAt l g w) (hb : Below w.heap.size w w') : CrsAt l g w' :=
  ⟨Nat.lt_of_lt_of_le h.lt hb.size, fun i hi => (hb.cell (p := ⟨g, i * 3, none⟩) h.lt).trans (h.c0 i hi), fun i hi => (hb.cell (p := ⟨g, i * 3 + 1, none⟩) h.lt).trans (h.c1 i hi), fun i hi => (hb.cell (p := ⟨g, i * 3 + 2, none⟩) h.lt).trans (h.c2 i hi)⟩
theorem CrsAt.other {l : List Cr} {g n : Nat} {W : World} (h : CrsAt l g W) (hn : n ≠ g) (u v : Value) : CrsAt l g ((W.setCell ⟨n, 0, none⟩ u).setCell ⟨n, 1, none⟩ v) := by
  have hk : ((W.setCell ⟨n, 0, none⟩ u).setCell ⟨n, 1, none⟩ v).heap[g]? = W.heap[g]? := by
    rw [Below.heap_setCell _ _ _ _ (Ne.symm hn), Below.heap_setCell _ _ _ _ (Ne.symm hn)]
  exact ⟨by have := h.lt; simpa [World.setCell] using this, fun i hi => (World.cell?_of_block (w := W) (a := ⟨g, i * 3, none⟩) hk).trans (h.c0 i hi), fun i hi => (World.cell?_of_block (w := W) (a := ⟨g, i * 3 + 1, none⟩) hk).trans (h.c1 i hi), fun i hi => (World.cell?_of_block (w := W) (a := ⟨g, i * 3 + 2, none⟩) hk).trans (h.c2 i hi)⟩
/-- what a slice of corners of the call's own is -/
theorem oc_cases {B : Nat} {w : World} {v : Value} {l : List Cr} (h : OC B w v l) : (v = .slice none 0 0 ∧ l = []) ∨ ∃ g cap, v = .slice (some ⟨g, 0, none⟩) l.length cap ∧ l.length ≤ cap ∧ cap ≤ 9223372036854775807 ∧ CrsAt l g w := by
  obtain ⟨h1, h2⟩ := h
  rcases h2 with ⟨rfl, hn⟩ | ⟨g, cap, cur, rfl, hb, hg, hc, hm, hs, ht⟩
  · exact .inl ⟨rfl, List.eq_nil_of_length_eq_zero hn⟩
  · have hlt : g < w.heap.size := (Array.getElem?_eq_some_iff.1 hg).1
    have hget : ∀ j, j < l.length * 3 → w.cell? ⟨g, j, none⟩ = (crC l)[j]? := fun j hj => by
      rw [← ht, List.getElem?_take, if_pos hj]
      unfold World.cell?
      rw [hg]
      simp
    unfold maxLen at hm
    refine .inr ⟨g, cap, rfl, hc, hm, hlt, fun i hi => ?_, fun i hi => ?_, fun i hi => ?_⟩
    · rw [hget _ (by omega), nthC_eq hi]; exact (crC_get l i hi).1
    · rw [hget _ (by omega), nthC_eq hi]; exact (crC_get l i hi).2.1
    · rw [hget _ (by omega), nthC_eq hi]; exact (crC_get l i hi).2.2
/-- an interval's variable in block bo -/
structure Out2 (bo : Nat) (x y : Int) (W : World) : Prop where
  lt : bo < W.heap.size
  c0 : W.cell? ⟨bo, 0, none⟩ = some (.int .i64 x)
  c1 : W.cell? ⟨bo, 1, none⟩ = some (.int .i64 y)
  f0 : W.frozen? ⟨bo, 0, none⟩ = false
  f1 : W.frozen? ⟨bo, 1, none⟩ = false
theorem Out2.below {bo : Nat} {x y : Int} {W w' : World} (h : Out2 bo x y W) (hb : Below W.heap.size W w') : Out2 bo x y w' :=
  ⟨Nat.lt_of_lt_of_le h.lt hb.size, (hb.cell (p := ⟨bo, 0, none⟩) h.lt).trans h.c0, (hb.cell (p := ⟨bo, 1, none⟩) h.lt).trans h.c1, (hb.frozen (p := ⟨bo, 0, none⟩) h.lt).trans h.f0, (hb.frozen (p := ⟨bo, 1, none⟩) h.lt).trans h.f1⟩
theorem Out2.set {bo : Nat} {x y : Int} {W : World} (h : Out2 bo x y W) (u v : Int) : Out2 bo u v ((W.setCell ⟨bo, 0, none⟩ (.int .i64 u)).setCell ⟨bo, 1, none⟩ (.int .i64 v)) := by
  have e1 : (W.setCell ⟨bo, 0, none⟩ (.int .i64 u)).cell? ⟨bo, 1, none⟩ = some (.int .i64 y) := by rw [World.cell?_setCell_other]; exact h.c1; intro e; injection e with _ e _; cases e
  have e0 : (W.setCell ⟨bo, 0, none⟩ (.int .i64 u)).cell? ⟨bo, 0, none⟩ = some (.int .i64 u) := World.cell?_setCell_same' W _ _ (by rw [h.c0]; rfl)
  refine ⟨by have := h.lt; simpa [World.setCell] using this, ?_, World.cell?_setCell_same' _ _ _ (by rw [e1]; rfl), by rw [World.frozen?_setCell, World.frozen?_setCell]; exact h.f0, by rw [World.frozen?_setCell, World.frozen?_setCell]; exact h.f1⟩
  rw [World.cell?_setCell_other]
  · exact e0
  · intro e; injection e with _ e _; cases e
theorem Out2.other {bo n : Nat} {x y : Int} {W : World} (h : Out2 bo x y W) (hn : n ≠ bo) (u v : Value) : Out2 bo x y ((W.setCell ⟨n, 0, none⟩ u).setCell ⟨n, 1, none⟩ v) := by
  have hk : ((W.setCell ⟨n, 0, none⟩ u).setCell ⟨n, 1, none⟩ v).heap[bo]? = W.heap[bo]? := by
    rw [Below.heap_setCell _ _ _ _ (Ne.symm hn), Below.heap_setCell _ _ _ _ (Ne.symm hn)]
  exact ⟨by have := h.lt; simpa [World.setCell] using this, (World.cell?_of_block (w := W) (a := ⟨bo, 0, none⟩) hk).trans h.c0, (World.cell?_of_block (w := W) (a := ⟨bo, 1, none⟩) hk).trans h.c1, (World.frozen?_of_block (w := W) (a := ⟨bo, 0, none⟩) hk).trans h.f0, (World.frozen?_of_block (w := W) (a := ⟨bo, 1, none⟩) hk).trans h.f1⟩
theorem out2_new (w : World) (t : TypeId) : Out2 w.heap.size 0 0 (w.alloc (.cells #[.int .i64 0, .int .i64 0] t)) :=
  ⟨by simp, by rw [World.cell?_alloc_at _ _ _ _ rfl]; rfl, by rw [World.cell?_alloc_at _ _ _ _ rfl]; rfl, by go_simp, by go_simp⟩
theorem below_set2 {B n : Nat} {w w1 : World} (h : Below B w w1) (hB : B ≤ n) (u v : Value) : Below B w ((w1.setCell ⟨n, 0, none⟩ u).setCell ⟨n, 1, none⟩ v) :=
  (h.setCell (p := ⟨n, 0, none⟩) hB u).setCell (p := ⟨n, 1, none⟩) hB v
/-- a corner at which the values fit -/
structure FitP (a b : Int) (p : Cr) : Prop where
  d0 : 0 < p.d
  d1 : p.d ≤ 131072
  x0 : -1688849860263936 ≤ a * p.x
  x1 : a * p.x ≤ 1688849860263936
  y0 : -1688849860263936 ≤ b * p.y
  y1 : b * p.y ≤ 1688849860263936
theorem fl_below (x d : Int) (w : World) (a0 : -4611686018427387904 ≤ x) (a1 : x ≤ 4611686018427387904) (c0 : 0 < d) (c1 : d ≤ 131072) :
    Calls Try.prog 57 #[.int .i64 x, .int .i64 d] w fun e w' => e = .returned (.tuple #[.int .i64 (floorI x d), .int .i64 0]) ∧ Below w.heap.size w w' :=
  (floor_any x d w (by omega) (by omega) c0 (by omega)).mono fun e w' ⟨h1, k, h2⟩ => ⟨h1, by rw [h2]; exact below_drewN (Below.refl _ _) _⟩
theorem ce_below (x d : Int) (w : World) (a0 : -4611686018427387904 ≤ x) (a1 : x ≤ 4611686018427387904) (c0 : 0 < d) (c1 : d ≤ 131072) :
    Calls Try.prog 58 #[.int .i64 x, .int .i64 d] w fun e w' => e = .returned (.tuple #[.int .i64 (ceilI x d), .int .i64 0]) ∧ Below w.heap.size w w' :=
  (ceil_any x d w (by omega) (by omega) c0 (by omega)).mono fun e w' ⟨h1, k, h2⟩ => ⟨h1, by rw [h2]; exact below_drewN (Below.refl _ _) _⟩
def BndR (a b : Int) (l : List Cr) (w : World) (br bo g0 : Nat) (s : Value) (wr : World) : Prop := ∃ k : Nat, s = .int .i64 k ∧ k ≤ l.length ∧ Hid (Below w.heap.size w wr) ∧ Hid (Out2 br 0 0 wr) ∧ Hid (Out2 bo (bndK a b l k).1 (bndK a b l k).2 wr) ∧ Hid (CrsAt l g0 wr)
set_option maxHeartbeats 8000000 in
set_option maxRecDepth 100000 in
theorem bounds_some (l : List Cr) (a b : Int) (g cap : Nat) (w : World) (h : CrsAt l g w) (hc : l.length ≤ cap) (hm : cap ≤ 9223372036854775807) (hf : ∀ p ∈ l, FitP a b p) :
    Calls Try.prog 36 #[.slice (some ⟨g, 0, none⟩) l.length cap, .int .i64 a, .int .i64 b] w fun e w' => e = .returned (.agg #[.int .i64 (bndF a b l).1, .int .i64 (bndF a b l).2]) ∧ Below w.heap.size w w' := by
  have H := Lib.hid h
  have hlt := h.lt
  have HF := Lib.hid hf
  clear h hf
  go_enter Try.func36, Try.ntmps36
  go_wp2_with fail
  have O1 := (out2_new w 30).below ((Below.refl _ _).alloc (Nat.le_refl _) (.cells #[.int .i64 0, .int .i64 0] 30))
  have O2 := out2_new (w.alloc (.cells #[.int .i64 0, .int .i64 0] 30)) 30
  have hb0 : Below w.heap.size w ((w.alloc (.cells #[.int .i64 0, .int .i64 0] 30)).alloc (.cells #[.int .i64 0, .int .i64 0] 30)) := ((Below.refl _ _).alloc (Nat.le_refl _) _).alloc (by simp) _
  have HC := Lib.hid (H.out.below hb0)
  have HB := Lib.hid hb0
  rw [World.size_alloc] at O2
  have HO1 := Lib.hid O1
  have HO2 := Lib.hid O2
  have hne : w.heap.size ≠ w.heap.size + 1 := by omega
  clear O1 O2 hb0 H
  generalize (w.alloc (.cells #[.int .i64 0, .int .i64 0] 30)).alloc (.cells #[.int .i64 0, .int .i64 0] 30) = w0 at *
  have hle : w.heap.size ≤ w.heap.size + 1 := by omega
  generalize hbo : w.heap.size + 1 = bo at *
  have hng : bo ≠ g := by omega
  clear hbo hlt
  go_loopw [17] (BndR a b l w w.heap.size bo g) (fun i _ => l.length - (intOf i).toNat)
  case atStart => exact ⟨0, rfl, Nat.zero_le _, HB, HO1, HO2, HC⟩
  case round =>
    obtain ⟨k, rfl, hk, HB, HR, HO, HC⟩ := hrel
    by_cases q : k < l.length
    · have q' : decide (k < l.length) = true := by simpa using q
      have M := HC.out
      have c0 := M.c0 k q
      have c1 := M.c1 k q
      have c2 := M.c2 k q
      have f := HF.out _ (nthC_mem q)
      have d0 := f.d0
      have d1 := f.d1
      have x0 := f.x0
      have x1 := f.x1
      have y0 := f.y0
      have y1 := f.y1
      have ELO := Lib.hid (show loF a b (nthC l k) = floorI (a * (nthC l k).x + b * (nthC l k).y) (nthC l k).d from rfl)
      have EHI := Lib.hid (show hiF a b (nthC l k) = ceilI (a * (nthC l k).x + b * (nthC l k).y) (nthC l k).d from rfl)
      have FL := Lib.hid fun w => fl_below (a * (nthC l k).x + b * (nthC l k).y) (nthC l k).d w (by omega) (by omega) d0 d1
      have CE := Lib.hid fun w => ce_below (a * (nthC l k).x + b * (nthC l k).y) (nthC l k).d w (by omega) (by omega) d0 d1
      have CN := Lib.hid fun w => cr_new (nthC l k) w 92
      have EK := Lib.hid (show bndK a b l (k + 1) = if k = 0 then (loF a b (nthC l 0), hiF a b (nthC l 0)) else (min (bndK a b l k).1 (loF a b (nthC l k)), max (bndK a b l k).2 (hiF a b (nthC l k))) from rfl)
      clear M f
      generalize hp : nthC l k = p at *
      have HP := Lib.hid hp
      clear hp
      obtain ⟨px, py, pd⟩ := p
      simp only at *
      generalize floorI (a * px + b * py) pd = lo at *
      generalize ceilI (a * px + b * py) pd = hi at *
      go_wp2_with fail
      refine (FL.out _).mono ?_
      rintro e w2 ⟨rfl, hb2⟩
      have hbr : Below wr.heap.size wr w2 := ((Below.refl _ _).alloc (Nat.le_refl _) _).trans (hb2.mono (by simp))
      have P2 := (CN.out wr).below hb2
      have p2 := P2.c2
      have HP2 := Lib.hid P2
      have HO2 := Lib.hid (HO.out.below hbr)
      have HR2 := Lib.hid (HR.out.below hbr)
      have HC2 := Lib.hid (HC.out.below hbr)
      have HB2 := Lib.hid (HB.out.trans (hbr.mono HB.out.size))
      clear c0 c1 c2 P2 hb2 hbr HO HR HC HB
      go_wp2_with fail
      refine (CE.out _).mono ?_
      rintro e w3 ⟨rfl, hb3⟩
      have HO3 := Lib.hid (HO2.out.below hb3)
      have HR3 := Lib.hid (HR2.out.below hb3)
      have HC3 := Lib.hid (HC2.out.below hb3)
      have HB3 := Lib.hid (HB2.out.trans (hb3.mono HB2.out.size))
      clear hb3 p2 HP2
      have o0 := HO3.out.c0
      have o1 := HO3.out.c1
      have o2 := HO3.out.f0
      have o3 := HO3.out.f1
      by_cases hz : k = 0
      · subst hz
        have EE := Lib.hid (show bndK a b l 1 = (lo, hi) by rw [EK.out, if_pos rfl, HP.out, ELO.out, EHI.out])
        go_wp2_with fail
        go_roundw
        case rel => exact ⟨1, by go_num, by omega, below_set2 (below_set2 HB3.out hle _ _) hle _ _, (HR3.out.other (Ne.symm hne) _ _).other (Ne.symm hne) _ _, by rw [EE.out]; exact (HO3.out.set _ _).set _ _, (HC3.out.other hng _ _).other hng _ _⟩
        case measure => simp [intOf]; omega
      · have gz : ((k : Int) == 0) = false := by simpa using hz
        have EE := Lib.hid (show bndK a b l (k + 1) = (min (bndK a b l k).1 lo, max (bndK a b l k).2 hi) by rw [EK.out, if_neg hz, ELO.out, EHI.out])
        clear hz
        generalize bndK a b l k = r at *
        obtain ⟨r0, r1⟩ := r
        go_wp2_with fail
        go_roundw
        case rel => exact ⟨k + 1, by go_num, by omega, below_set2 HB3.out hle _ _, HR3.out.other (Ne.symm hne) _ _, by rw [EE.out]; exact HO3.out.set _ _, HC3.out.other hng _ _⟩
        case measure => simp [intOf]; omega
    · obtain rfl : k = l.length := by omega
      have o0 := HO.out.c0
      have o1 := HO.out.c1
      have o4 := HR.out.c0
      have o5 := HR.out.c1
      have o6 := HR.out.f0
      have o7 := HR.out.f1
      have EB := Lib.hid (show bndF a b l = bndK a b l l.length from rfl)
      generalize bndK a b l l.length = r at *
      obtain ⟨r0, r1⟩ := r
      simp only at o0 o1
      go_wp2_with fail
      refine bodyPost_ret (v := .agg #[.int .i64 r0, .int .i64 r1]) (by simp [results, Try.results36, go_sem, o4, o5]) rfl ⟨by rw [EB.out], below_set2 HB.out (Nat.le_refl _) _ _⟩
theorem bounds_nil (a b : Int) (w : World) :
    Calls Try.prog 36 #[.slice none 0 0, .int .i64 a, .int .i64 b] w fun e w' => e = .returned (.agg #[.int .i64 0, .int .i64 0]) ∧ Below w.heap.size w w' := by
  go_enter Try.func36, Try.ntmps36
  go_wp2
  go_loop [17] (fun v => v = .int .i64 0) (fun _ => 0)
  case atStart => rfl
  case round =>
    subst hrel
    go_wp2_with fail
    refine bodyPost_ret (v := .agg #[.int .i64 0, .int .i64 0]) (by simp [results, Try.results36, go_sem]) rfl ⟨rfl, ?_⟩
    first
      | exact below_set2 (((Below.refl _ _).alloc (Nat.le_refl _) _).alloc (by simp) _) (Nat.le_refl _) _ _
      | exact ((Below.refl _ _).alloc (Nat.le_refl _) _).alloc (by simp) _
theorem bounds_any (l : List Cr) (a b : Int) (B : Nat) (v : Value) (w : World) (h : OC B w v l) (hf : ∀ p ∈ l, FitP a b p) :
    Calls Try.prog 36 #[v, .int .i64 a, .int .i64 b] w fun e w' => e = .returned (.agg #[.int .i64 (bndF a b l).1, .int .i64 (bndF a b l).2]) ∧ Below w.heap.size w w' := by
  rcases oc_cases h with ⟨rfl, rfl⟩ | ⟨g, cap, rfl, h2, h3, h4⟩
  · exact bounds_nil a b w
  · exact bounds_some l a b g cap w h4 h2 h3 hf
end Go.Proofs.Ytmlopbolekddnaa
