/-
  The walk of the reference's span of layer 44.
-/
import Derived.Test.YtmlopbolekddnaaRef44C
namespace Go.Proofs.Ytmlopbolekddnaa
set_option linter.unusedVariables false
open Go.RowKit

theorem rfl_below (x d : Int) (w : World) (a0 : -4611686018427387904 ≤ x) (a1 : x ≤ 4611686018427387904) (c0 : 0 < d) (c1 : d ≤ 131072) :
    Calls Try.prog 60 #[.int .i64 x, .int .i64 d] w fun e w' => e = .returned (.tuple #[.int .i64 (floorI x d), .int .i64 0]) ∧ Below w.heap.size w w' :=
  (rfloor_any x d w (by omega) (by omega) c0 (by omega)).mono fun e w' ⟨h1, h2⟩ => ⟨h1, by rw [← h2]; exact Below.refl _ _⟩
theorem rce_below (x d : Int) (w : World) (a0 : -4611686018427387904 ≤ x) (a1 : x ≤ 4611686018427387904) (c0 : 0 < d) (c1 : d ≤ 131072) :
    Calls Try.prog 61 #[.int .i64 x, .int .i64 d] w fun e w' => e = .returned (.tuple #[.int .i64 (ceilI x d), .int .i64 0]) ∧ Below w.heap.size w w' :=
  (rceil_any x d w (by omega) (by omega) c0 (by omega)).mono fun e w' ⟨h1, h2⟩ => ⟨h1, by rw [← h2]; exact Below.refl _ _⟩
theorem Out2.one {bo n j : Nat} {x y : Int} {W : World} (h : Out2 bo x y W) (hn : n ≠ bo) (_ : Unit) (u : Value) : Out2 bo x y (W.setCell ⟨n, j, none⟩ u) := by
  have hk : (W.setCell ⟨n, j, none⟩ u).heap[bo]? = W.heap[bo]? := Below.heap_setCell _ _ _ _ (Ne.symm hn)
  exact ⟨by have := h.lt; simpa [World.setCell] using this, (World.cell?_of_block (w := W) (a := ⟨bo, 0, none⟩) hk).trans h.c0, (World.cell?_of_block (w := W) (a := ⟨bo, 1, none⟩) hk).trans h.c1, (World.frozen?_of_block (w := W) (a := ⟨bo, 0, none⟩) hk).trans h.f0, (World.frozen?_of_block (w := W) (a := ⟨bo, 1, none⟩) hk).trans h.f1⟩
theorem CrsAt.one {l : List Cr} {g n j : Nat} {W : World} (h : CrsAt l g W) (hn : n ≠ g) (_ : Unit) (u : Value) : CrsAt l g (W.setCell ⟨n, j, none⟩ u) := by
  have hk : (W.setCell ⟨n, j, none⟩ u).heap[g]? = W.heap[g]? := Below.heap_setCell _ _ _ _ (Ne.symm hn)
  exact ⟨by have := h.lt; simpa [World.setCell] using this, fun i hi => (World.cell?_of_block (w := W) (a := ⟨g, i * 3, none⟩) hk).trans (h.c0 i hi), fun i hi => (World.cell?_of_block (w := W) (a := ⟨g, i * 3 + 1, none⟩) hk).trans (h.c1 i hi), fun i hi => (World.cell?_of_block (w := W) (a := ⟨g, i * 3 + 2, none⟩) hk).trans (h.c2 i hi)⟩
theorem Out2.set0 {bo : Nat} {x y : Int} {W : World} (h : Out2 bo x y W) (u : Int) : Out2 bo u y (W.setCell ⟨bo, 0, none⟩ (.int .i64 u)) := by
  refine ⟨by have := h.lt; simpa [World.setCell] using this, World.cell?_setCell_same' W _ _ (by rw [h.c0]; rfl), ?_, by rw [World.frozen?_setCell]; exact h.f0, by rw [World.frozen?_setCell]; exact h.f1⟩
  rw [World.cell?_setCell_other]; exact h.c1; intro e; injection e with _ e _; cases e
theorem Out2.set1 {bo : Nat} {x y : Int} {W : World} (h : Out2 bo x y W) (u : Int) : Out2 bo x u (W.setCell ⟨bo, 1, none⟩ (.int .i64 u)) := by
  refine ⟨by have := h.lt; simpa [World.setCell] using this, ?_, World.cell?_setCell_same' W _ _ (by rw [h.c1]; rfl), by rw [World.frozen?_setCell]; exact h.f0, by rw [World.frozen?_setCell]; exact h.f1⟩
  rw [World.cell?_setCell_other]; exact h.c0; intro e; injection e with _ e _; cases e
set_option maxHeartbeats 8000000 in
set_option maxRecDepth 100000 in
theorem span_some (l : List Cr) (a b : Int) (g cap : Nat) (w : World) (h : CrsAt l g w) (hc : l.length ≤ cap) (hm : cap ≤ 9223372036854775807) (hf : ∀ p ∈ l, FitP a b p) :
    Calls Try.prog 38 #[.slice (some ⟨g, 0, none⟩) l.length cap, .int .i64 a, .int .i64 b] w fun e w' => e = .returned (.agg #[.int .i64 (bndF a b l).1, .int .i64 (bndF a b l).2]) ∧ Below w.heap.size w w' := by
  have H := Lib.hid h
  have hlt := h.lt
  have HF := Lib.hid hf
  clear h hf
  go_enter Try.func38, Try.ntmps38
  go_wp2_with fail
  have O1 := (out2_new w 30).below ((Below.refl _ _).alloc (Nat.le_refl _) (.cells #[.int .i64 0, .int .i64 0] 30))
  have O2 := out2_new (w.alloc (.cells #[.int .i64 0, .int .i64 0] 30)) 30
  have hb0 : Below w.heap.size w ((w.alloc (.cells #[.int .i64 0, .int .i64 0] 30)).alloc (.cells #[.int .i64 0, .int .i64 0] 30)) := ((Below.refl _ _).alloc (Nat.le_refl _) _).alloc (by simp) _
  have HC := Lib.hid (H.out.below hb0)
  have HB := Lib.hid hb0
  rw [World.size_alloc] at O2
  have HO1 := Lib.hid O1
  have HO2 := Lib.hid O2
  have hne : w.heap.size ≠ w.heap.size + 1 := by omega
  clear O1 O2 hb0 H
  generalize (w.alloc (.cells #[.int .i64 0, .int .i64 0] 30)).alloc (.cells #[.int .i64 0, .int .i64 0] 30) = w0 at *
  have hle : w.heap.size ≤ w.heap.size + 1 := by omega
  generalize hbo : w.heap.size + 1 = bo at *
  have hng : bo ≠ g := by omega
  clear hbo hlt
  go_loopw [17] (BndR a b l w w.heap.size bo g) (fun i _ => l.length - (intOf i).toNat)
  case atStart => exact ⟨0, rfl, Nat.zero_le _, HB, HO1, HO2, HC⟩
  case round =>
    obtain ⟨k, rfl, hk, HB, HR, HO, HC⟩ := hrel
    by_cases q : k < l.length
    · have q' : decide (k < l.length) = true := by simpa using q
      have M := HC.out
      have c0 := M.c0 k q
      have c1 := M.c1 k q
      have c2 := M.c2 k q
      have f := HF.out _ (nthC_mem q)
      have d0 := f.d0
      have d1 := f.d1
      have x0 := f.x0
      have x1 := f.x1
      have y0 := f.y0
      have y1 := f.y1
      have ELO := Lib.hid (show loF a b (nthC l k) = floorI (a * (nthC l k).x + b * (nthC l k).y) (nthC l k).d from rfl)
      have EHI := Lib.hid (show hiF a b (nthC l k) = ceilI (a * (nthC l k).x + b * (nthC l k).y) (nthC l k).d from rfl)
      have FL := Lib.hid fun w => rfl_below (a * (nthC l k).x + b * (nthC l k).y) (nthC l k).d w (by omega) (by omega) d0 d1
      have CE := Lib.hid fun w => rce_below (a * (nthC l k).x + b * (nthC l k).y) (nthC l k).d w (by omega) (by omega) d0 d1
      have CN := Lib.hid fun w => cr_new (nthC l k) w 98
      have EK := Lib.hid (show bndK a b l (k + 1) = if k = 0 then (loF a b (nthC l 0), hiF a b (nthC l 0)) else (min (bndK a b l k).1 (loF a b (nthC l k)), max (bndK a b l k).2 (hiF a b (nthC l k))) from rfl)
      clear M f
      generalize hp : nthC l k = p at *
      have HP := Lib.hid hp
      clear hp
      obtain ⟨px, py, pd⟩ := p
      simp only at *
      generalize floorI (a * px + b * py) pd = lo at *
      generalize ceilI (a * px + b * py) pd = hi at *
      go_wp2_with fail
      refine (FL.out _).mono ?_
      rintro e w2 ⟨rfl, hb2⟩
      have hbr : Below wr.heap.size wr w2 := ((Below.refl _ _).alloc (Nat.le_refl _) _).trans (hb2.mono (by simp))
      have P2 := (CN.out wr).below hb2
      have p0 := P2.c0
      have p1 := P2.c1
      have p2 := P2.c2
      have pz := P2.lt
      have HP2 := Lib.hid P2
      have HO2 := Lib.hid (HO.out.below hbr)
      have HR2 := Lib.hid (HR.out.below hbr)
      have HC2 := Lib.hid (HC.out.below hbr)
      have HB2 := Lib.hid (HB.out.trans (hbr.mono HB.out.size))
      clear c0 c1 c2 P2 hb2 hbr HO HR HC HB
      go_wp2_with fail
      refine (CE.out _).mono ?_
      rintro e w3 ⟨rfl, hb3⟩
      have HO3 := Lib.hid (HO2.out.below hb3)
      have HR3 := Lib.hid (HR2.out.below hb3)
      have HC3 := Lib.hid (HC2.out.below hb3)
      have HB3 := Lib.hid (HB2.out.trans (hb3.mono HB2.out.size))
      clear hb3 p0 p1 p2 pz HP2
      have o0 := HO3.out.c0
      have o1 := HO3.out.c1
      have o2 := HO3.out.f0
      have o3 := HO3.out.f1
      by_cases hz : k = 0
      · subst hz
        have EE := Lib.hid (show bndK a b l 1 = (lo, hi) by rw [EK.out, if_pos rfl, HP.out, ELO.out, EHI.out])
        go_wp2_with fail
        go_roundw
        case rel => exact ⟨1, by go_num, by omega, below_set2 HB3.out hle _ _, HR3.out.other (Ne.symm hne) _ _, by rw [EE.out]; exact HO3.out.set _ _, HC3.out.other hng _ _⟩
        case measure => simp [intOf]; omega
      · have gz : ((k : Int) == 0) = false := by simpa using hz
        have EE := Lib.hid (show bndK a b l (k + 1) = (min (bndK a b l k).1 lo, max (bndK a b l k).2 hi) by rw [EK.out, if_neg hz, ELO.out, EHI.out])
        clear hz
        generalize bndK a b l k = r at *
        obtain ⟨r0, r1⟩ := r
        simp only at o0 o1 EE
        have HSame := Lib.hid fun (W : World) (h : Out2 bo r0 r1 W) => h
        by_cases m0 : lo < r0
        · have n0 : decide (lo < r0) = true := by simpa using m0
          by_cases m1 : r1 < hi
          · have n1 : decide (r1 < hi) = true := by simpa using m1
            have E2 := Lib.hid (show (min r0 lo, max r1 hi) = (lo, hi) by rw [Int.min_eq_right (by omega), Int.max_eq_right (by omega)])
            clear m0 m1
            go_wp2_with fail
            go_roundw
            case rel => exact ⟨k + 1, by go_num, by omega, below_set2 HB3.out hle _ _, HR3.out.other (Ne.symm hne) _ _, by rw [EE.out, E2.out]; exact HO3.out.set _ _, HC3.out.other hng _ _⟩
            case measure => simp [intOf]; omega
          · have n1 : decide (r1 < hi) = false := by simpa using m1
            have E2 := Lib.hid (show (min r0 lo, max r1 hi) = (lo, r1) by rw [Int.min_eq_right (by omega), Int.max_eq_left (by omega)])
            clear m0 m1
            go_wp2_with fail
            go_roundw
            case rel => exact ⟨k + 1, by go_num, by omega, HB3.out.setCell (p := ⟨bo, 0, none⟩) hle _, HR3.out.one (Ne.symm hne) () _, by rw [EE.out, E2.out]; exact HO3.out.set0 _, HC3.out.one hng () _⟩
            case measure => simp [intOf]; omega
        · have n0 : decide (lo < r0) = false := by simpa using m0
          by_cases m1 : r1 < hi
          · have n1 : decide (r1 < hi) = true := by simpa using m1
            have E2 := Lib.hid (show (min r0 lo, max r1 hi) = (r0, hi) by rw [Int.min_eq_left (by omega), Int.max_eq_right (by omega)])
            clear m0 m1
            go_wp2_with fail
            go_roundw
            case rel => exact ⟨k + 1, by go_num, by omega, HB3.out.setCell (p := ⟨bo, 1, none⟩) hle _, HR3.out.one (Ne.symm hne) () _, by rw [EE.out, E2.out]; exact HO3.out.set1 _, HC3.out.one hng () _⟩
            case measure => simp [intOf]; omega
          · have n1 : decide (r1 < hi) = false := by simpa using m1
            have E2 := Lib.hid (show (min r0 lo, max r1 hi) = (r0, r1) by rw [Int.min_eq_left (by omega), Int.max_eq_left (by omega)])
            clear m0 m1
            go_wp2_with fail
            go_roundw
            case rel => exact ⟨k + 1, by go_num, by omega, HB3, HR3, by rw [EE.out, E2.out]; exact HO3, HC3⟩
            case measure => simp [intOf]; omega
    · obtain rfl : k = l.length := by omega
      have o0 := HO.out.c0
      have o1 := HO.out.c1
      have o4 := HR.out.c0
      have o5 := HR.out.c1
      have o6 := HR.out.f0
      have o7 := HR.out.f1
      have EB := Lib.hid (show bndF a b l = bndK a b l l.length from rfl)
      generalize bndK a b l l.length = r at *
      obtain ⟨r0, r1⟩ := r
      simp only at o0 o1
      go_wp2_with fail
      refine bodyPost_ret (v := .agg #[.int .i64 r0, .int .i64 r1]) (by simp [results, Try.results38, go_sem, o4, o5]) rfl ⟨by rw [EB.out], below_set2 HB.out (Nat.le_refl _) _ _⟩
theorem span_nil (a b : Int) (w : World) :
    Calls Try.prog 38 #[.slice none 0 0, .int .i64 a, .int .i64 b] w fun e w' => e = .returned (.agg #[.int .i64 0, .int .i64 0]) ∧ Below w.heap.size w w' := by
  go_enter Try.func38, Try.ntmps38
  go_wp2
  go_loop [17] (fun v => v = .int .i64 0) (fun _ => 0)
  case atStart => rfl
  case round =>
    subst hrel
    go_wp2_with fail
    refine bodyPost_ret (v := .agg #[.int .i64 0, .int .i64 0]) (by simp [results, Try.results38, go_sem]) rfl ⟨rfl, ?_⟩
    first
      | exact below_set2 (((Below.refl _ _).alloc (Nat.le_refl _) _).alloc (by simp) _) (Nat.le_refl _) _ _
      | exact ((Below.refl _ _).alloc (Nat.le_refl _) _).alloc (by simp) _
theorem span_any (l : List Cr) (a b : Int) (B : Nat) (v : Value) (w : World) (h : OV B w v l) (hf : ∀ p ∈ l, FitP a b p) :
    Calls Try.prog 38 #[v, .int .i64 a, .int .i64 b] w fun e w' => e = .returned (.agg #[.int .i64 (bndF a b l).1, .int .i64 (bndF a b l).2]) ∧ Below w.heap.size w w' := by
  rcases ov_cases h with ⟨rfl, rfl⟩ | ⟨g, cap, rfl, h2, h3, h4⟩
  · exact span_nil a b w
  · exact span_some l a b g cap w h4 h2 h3 hf
end Go.Proofs.Ytmlopbolekddnaa
