/-
  Further measurements only shrink regions and ranges: plain laws of layer 44; the walks of interval.Valid and Within.
-/
import Derived.Test.YtmlopbolekddnaaHonestPlain
namespace Go.Proofs.Ytmlopbolekddnaa
set_option linter.unusedVariables false
open Go.RowKit

theorem floor_mono {v d v' d' : Int} (h : 0 < d) (h' : 0 < d') (hv : v' * d ≤ v * d') : floorI v' d' ≤ floorI v d := by
  unfold floorI
  apply Int.le_ediv_of_mul_le h
  have e := Int.mul_ediv_add_emod v' d'
  have r0 := Int.emod_nonneg v' (show d' ≠ 0 by omega)
  have h1 : (v' / d') * d' ≤ v' := by rw [Int.mul_comm]; omega
  have h2 : (v' / d') * d' * d ≤ v' * d := Int.mul_le_mul_of_nonneg_right h1 (by omega)
  have h3 : ((v' / d') * d) * d' ≤ v * d' := by
    have : (v' / d') * d * d' = (v' / d') * d' * d := by grind
    omega
  exact Int.le_of_mul_le_mul_right h3 h'
theorem ceil_mono {v d v' d' : Int} (h : 0 < d) (h' : 0 < d') (hv : v * d' ≤ v' * d) : ceilI v d ≤ ceilI v' d' := by
  have : floorI (-v') d' ≤ floorI (-v) d := floor_mono h h' (by rw [Int.neg_mul, Int.neg_mul]; omega)
  unfold floorI at this
  unfold ceilI
  omega
theorem floor_ceil {v d : Int} (h : 0 < d) : floorI v d ≤ ceilI v d := by
  unfold floorI ceilI
  have e := Int.mul_ediv_add_emod v d
  have r0 := Int.emod_nonneg v (show d ≠ 0 by omega)
  have e' := Int.mul_ediv_add_emod (-v) d
  have r1 := Int.emod_nonneg (-v) (show d ≠ 0 by omega)
  have : d * (v / d + (-v) / d) ≤ d * 0 := by rw [Int.mul_add]; omega
  have := Int.le_of_mul_le_mul_left this h
  omega
theorem floor_small {x d B : Int} (h : 0 < d) (h0 : -B ≤ x) (h1 : x ≤ B) (hB : 0 ≤ B) : -B ≤ floorI x d ∧ floorI x d ≤ B := by
  have := ceil_small (x := -x) h (by omega) (by omega) hB
  unfold ceilI at this
  unfold floorI
  rw [Int.neg_neg] at this
  omega
theorem lo_fit {a b : Int} {p : Cr} (h : FitP a b p) : -4000000000000000 ≤ loF a b p ∧ loF a b p ≤ 4000000000000000 := by
  obtain ⟨d0, d1, x0, x1, y0, y1⟩ := h
  unfold loF
  generalize a * p.x = u at *
  generalize b * p.y = v at *
  generalize p.d = d at *
  exact floor_small d0 (by omega) (by omega) (by omega)
structure GoodI (r : Int × Int) : Prop where
  le : r.1 ≤ r.2
  lo : -4000000000000000 ≤ r.1
  hi : r.2 ≤ 4000000000000000
theorem bnd_good {a b : Int} {l : List Cr} (hl : l ≠ []) (h : ∀ p ∈ l, FitP a b p) : GoodI (bndF a b l) := by
  have B := bnd_is a b hl
  obtain ⟨p, hp, e1⟩ := B.lo
  obtain ⟨q, hq, e2⟩ := B.hi
  have h1 := (B.all p hp).2
  have h2 : loF a b p ≤ hiF a b p := floor_ceil (h p hp).d0
  have h3 := lo_fit (h p hp)
  have h4 := hi_fit (h q hq)
  constructor <;> omega
theorem in_take {l : List Ms} {X Y D : Int} (h : In l X Y D) (k : Nat) : In (l.take k) X Y D := fun m hm => h m (List.mem_of_mem_take hm)
theorem full_take {l : List Ms} {k : Nat} (h : fullB (l.take k) = true) : fullB l = true := by
  rw [fullB_iff] at *
  obtain ⟨m, hm, n, hn, hd⟩ := h
  exact ⟨m, List.mem_of_mem_take hm, n, List.mem_of_mem_take hn, hd⟩
theorem cor_take {l : List Ms} {k : Nat} (hf : fullB (l.take k) = true) (h : 0 < (corL l).length) : 0 < (corL (l.take k)).length := by
  obtain ⟨p, hp⟩ := List.exists_mem_of_length_pos h
  have hc := mem_corL.1 hp
  obtain ⟨q, hq⟩ := corner_ex hc.pos (in_take hc.inn k) (fullB_iff.1 hf)
  exact List.length_pos_of_mem (mem_corL.2 hq)
theorem bnd_take {l : List Ms} {k : Nat} (a b : Int) (hf : fullB (l.take k) = true) (h : 0 < (corL l).length) :
    (bndF a b (corL (l.take k))).1 ≤ (bndF a b (corL l)).1 ∧ (bndF a b (corL l)).2 ≤ (bndF a b (corL (l.take k))).2 := by
  have B := bnd_is a b (List.length_pos_iff.1 h)
  have B' := bnd_is a b (List.length_pos_iff.1 (cor_take hf h))
  obtain ⟨p, hp, e1⟩ := B.lo
  obtain ⟨q, hq, e2⟩ := B.hi
  have cp := mem_corL.1 hp
  have cq := mem_corL.1 hq
  obtain ⟨p', hp', h1⟩ := corner_le a b cp.pos (in_take cp.inn k) (fullB_iff.1 hf)
  obtain ⟨q', hq', h2⟩ := corner_ge a b cq.pos (in_take cq.inn k) (fullB_iff.1 hf)
  have f1 := (B'.all p' (mem_corL.2 hp')).1
  have f2 := (B'.all q' (mem_corL.2 hq')).2
  have g1 : loF a b p' ≤ loF a b p := floor_mono cp.pos hp'.pos h1
  have g2 : hiF a b q ≤ hiF a b q' := ceil_mono cq.pos hq'.pos h2
  omega
def vldI (x y : Int) : Bool := decide (x ≤ y ∧ -4611686018427387904 ≤ x ∧ y ≤ 4611686018427387904)
/-- what the law looks at -/
def NestOk (e f g h : Int) (a b : Bool) (x0 x1 y0 y1 : Int) : Prop :=
  ((e == 0) = false ∧ (g != 0) = true) ∨
  (e = 0 ∧ (f == 0) = false ∧ (g != 0) = true) ∨ (e = 0 ∧ (f == 0) = false ∧ g = 0 ∧ h = 1) ∨ (e = 0 ∧ (f == 0) = false ∧ g = 0 ∧ h = 3) ∨
  (e = 0 ∧ f = 0 ∧ b = true ∧ a = true ∧ (g != 0) = true) ∨ (e = 0 ∧ f = 0 ∧ b = true ∧ a = true ∧ g = 0 ∧ h = 0 ∧ vldI x0 x1 = true ∧ vldI y0 y1 = true ∧ x0 ≤ y0 ∧ y1 ≤ x1) ∨
  (e = 0 ∧ f = 0 ∧ b = false ∧ (g != 0) = true) ∨ (e = 0 ∧ f = 0 ∧ b = false ∧ g = 0 ∧ h = 6)
theorem nest_one {e f g h : Int} {a b : Bool} {x0 x1 y0 y1 : Int} (H : NestOk e f g h a b x0 x1 y0 y1) (he : e ≠ 0) : (e == 0) = false ∧ (g != 0) = true := by
  rcases H with h | ⟨h, _⟩ | ⟨h, _⟩ | ⟨h, _⟩ | ⟨h, _⟩ | ⟨h, _⟩ | ⟨h, _⟩ | ⟨h, _⟩
  · exact h
  all_goals exact absurd h he
theorem good_vld {r : Int × Int} (h : GoodI r) : vldI r.1 r.2 = true := by
  have := h.le
  have := h.lo
  have := h.hi
  unfold vldI
  exact decide_eq_true (by omega)
theorem nest_ok (l : List Ms) (k : Nat) (a b : Int) :
    NestOk (conF (l.take k)).2 (conF l).2 (rngF (l.take k) a b).2 (rngF l a b).2 (conF (l.take k)).1 (conF l).1 (rngF (l.take k) a b).1.1 (rngF (l.take k) a b).1.2 (rngF l a b).1.1 (rngF l a b).1.2 := by
  have ne : ∀ {z : Int}, z ≠ 0 → (z == 0) = false := fun h => by simpa using h
  have nn : ∀ {z : Int}, z ≠ 0 → (z != 0) = true := fun h => by simpa using h
  by_cases hk : chkL (l.take k) = 0
  · by_cases hfk : fullB (l.take k) = true
    · have ek : conF (l.take k) = (decide (0 < (corL (l.take k)).length), 0) := by unfold conF; rw [if_pos hk, if_pos hfk]
      rw [ek]
      by_cases hl : chkL l = 0
      · have hfl := full_take hfk
        have el : conF l = (decide (0 < (corL l).length), 0) := by unfold conF; rw [if_pos hl, if_pos hfl]
        rw [el]
        by_cases hab : abB a b = true
        · have gk : rngF (l.take k) a b = if (corL (l.take k)).length = 0 then ((0, 0), 6) else (bndF a b (corL (l.take k)), 0) := by unfold rngF; rw [if_pos hk, if_pos hab, if_pos hfk]
          have gl : rngF l a b = if (corL l).length = 0 then ((0, 0), 6) else (bndF a b (corL l), 0) := by unfold rngF; rw [if_pos hl, if_pos hab, if_pos hfl]
          rw [gk, gl]
          obtain ⟨a0, a1, b0, b1⟩ := of_decide_eq_true hab
          by_cases h0 : 0 < (corL l).length
          · have h1 := cor_take hfk h0
            rw [if_neg (by omega), if_neg (by omega), decide_eq_true h0, decide_eq_true h1]
            have fk := fit_of (l := l.take k) (a := a) (b := b) (ed_of hk).1 ⟨a0, a1, b0, b1⟩
            have fl := fit_of (l := l) (a := a) (b := b) (ed_of hl).1 ⟨a0, a1, b0, b1⟩
            obtain ⟨t1, t2⟩ := bnd_take a b hfk h0
            exact .inr (.inr (.inr (.inr (.inr (.inl ⟨rfl, rfl, rfl, rfl, rfl, rfl, good_vld (bnd_good (List.length_pos_iff.1 h1) fk), good_vld (bnd_good (List.length_pos_iff.1 h0) fl), t1, t2⟩)))))
          · rw [decide_eq_false h0, if_pos (show (corL l).length = 0 by omega)]
            by_cases h1 : (corL (l.take k)).length = 0
            · rw [if_pos h1]
              exact .inr (.inr (.inr (.inr (.inr (.inr (.inl ⟨rfl, rfl, rfl, rfl⟩))))))
            · rw [if_neg h1]
              exact .inr (.inr (.inr (.inr (.inr (.inr (.inr ⟨rfl, rfl, rfl, rfl, rfl⟩))))))
        · have gk : rngF (l.take k) a b = ((0, 0), 1) := by unfold rngF; rw [if_pos hk, if_neg hab]
          rw [gk]
          by_cases h0 : 0 < (corL l).length
          · rw [decide_eq_true h0, decide_eq_true (cor_take hfk h0)]
            exact .inr (.inr (.inr (.inr (.inl ⟨rfl, rfl, rfl, rfl, rfl⟩))))
          · rw [decide_eq_false h0]
            exact .inr (.inr (.inr (.inr (.inr (.inr (.inl ⟨rfl, rfl, rfl, rfl⟩))))))
      · have el : conF l = (false, chkL l) := by unfold conF; rw [if_neg hl]
        have gl : rngF l a b = ((0, 0), chkL l) := by unfold rngF; rw [if_neg hl]
        rw [el, gl]
        by_cases hg : (rngF (l.take k) a b).2 = 0
        · rcases chkL_cases l with h | h | h
          · exact absurd h hl
          · exact .inr (.inr (.inl ⟨rfl, ne hl, hg, h⟩))
          · exact .inr (.inr (.inr (.inl ⟨rfl, ne hl, hg, h⟩)))
        · exact .inr (.inl ⟨rfl, ne hl, nn hg⟩)
    · have ek : conF (l.take k) = (false, 14) := by unfold conF; rw [if_pos hk, if_neg hfk]
      rw [ek]
      refine .inl ⟨rfl, nn ?_⟩
      unfold rngF
      rw [if_pos hk]
      by_cases hab : abB a b = true
      · rw [if_pos hab, if_neg hfk]; simp
      · rw [if_neg hab]; simp
  · have ek : conF (l.take k) = (false, chkL (l.take k)) := by unfold conF; rw [if_neg hk]
    have gk : rngF (l.take k) a b = ((0, 0), chkL (l.take k)) := by unfold rngF; rw [if_neg hk]
    rw [ek, gk]
    exact .inl ⟨ne hk, nn hk⟩
set_option maxHeartbeats 4000000 in
theorem vldI_any (x y : Int) (w : World) : Calls Try.prog 43 #[.agg #[.int .i64 x, .int .i64 y]] w fun e w' => e = .returned (.bool (vldI x y)) ∧ Below w.heap.size w w' := by
  have key : (decide (x ≤ y) = false ∧ vldI x y = false) ∨ (decide (x ≤ y) = true ∧ decide (-4611686018427387904 ≤ x) = false ∧ vldI x y = false) ∨ (decide (x ≤ y) = true ∧ decide (-4611686018427387904 ≤ x) = true ∧ decide (y ≤ 4611686018427387904) = false ∧ vldI x y = false) ∨ (decide (x ≤ y) = true ∧ decide (-4611686018427387904 ≤ x) = true ∧ decide (y ≤ 4611686018427387904) = true ∧ vldI x y = true) := by
    unfold vldI
    simp only [decide_eq_true_eq, decide_eq_false_iff_not]
    omega
  rcases key with ⟨g0, E⟩ | ⟨g0, g1, E⟩ | ⟨g0, g1, g2, E⟩ | ⟨g0, g1, g2, E⟩
  all_goals
    rw [E]
    clear E
    go_enter Try.func43, Try.ntmps43
    go_wp2
    go_ret
    exact ⟨rfl, (Below.refl _ _).alloc (Nat.le_refl _) _⟩
set_option maxHeartbeats 4000000 in
theorem within_ok (x0 x1 y0 y1 : Int) (w : World) (hx : vldI x0 x1 = true) (hy : vldI y0 y1 = true) (h0 : x0 ≤ y0) (h1 : y1 ≤ x1) :
    Calls Try.prog 24 #[.agg #[.int .i64 y0, .int .i64 y1], .agg #[.int .i64 x0, .int .i64 x1]] w fun e w' => e = .returned (.bool true) ∧ Below w.heap.size w w' := by
  have V1 := Lib.hid fun w => vldI_any x0 x1 w
  have V2 := Lib.hid fun w => vldI_any y0 y1 w
  rw [hx] at V1
  rw [hy] at V2
  have k0 : decide (x0 ≤ y0) = true := by simpa using h0
  have k1 : decide (y1 ≤ x1) = true := by simpa using h1
  have PY := Lib.hid ((pt_new y0 y1 w 30).below ((Below.refl _ _).alloc (Nat.le_refl _) (.cells #[.int .i64 x0, .int .i64 x1] 30)))
  have PX := Lib.hid (pt_new x0 x1 (w.alloc (.cells #[.int .i64 y0, .int .i64 y1] 30)) 30)
  have HB := Lib.hid (((Below.refl w.heap.size w).alloc (Nat.le_refl _) (.cells #[.int .i64 y0, .int .i64 y1] 30)).alloc (by simp) (.cells #[.int .i64 x0, .int .i64 x1] 30))
  clear hx hy h0 h1
  go_enter Try.func24, Try.ntmps24
  go_wp2_with fail
  generalize (w.alloc (.cells #[.int .i64 y0, .int .i64 y1] 30)).alloc (.cells #[.int .i64 x0, .int .i64 x1] 30) = W1 at *
  rw [World.size_alloc] at PX
  refine (V2.out _).mono ?_
  rintro e w2 ⟨rfl, hb2⟩
  have HB2 := Lib.hid (HB.out.trans (hb2.mono HB.out.size))
  have PX2 := Lib.hid (PX.out.below hb2)
  have PY2 := Lib.hid (PY.out.below hb2)
  have u0 := PX2.out.c0
  have u1 := PX2.out.c1
  have u2 := PX2.out.lt
  clear hb2
  go_wp2_with fail
  refine (V1.out _).mono ?_
  rintro e w3 ⟨rfl, hb3⟩
  have HB3 := Lib.hid (HB2.out.trans (hb3.mono HB2.out.size))
  have pe := PX2.out.below hb3
  have pf := PY2.out.below hb3
  clear u0 u1 u2 hb3
  have u0 := pe.c0
  have u1 := pe.c1
  have u2 := pe.lt
  have v0 := pf.c0
  have v1 := pf.c1
  have v2 := pf.lt
  clear pe pf
  go_wp2
  go_ret
  exact ⟨rfl, HB3.out⟩
end Go.Proofs.Ytmlopbolekddnaa
