/-
  Walks and laws of the layers below, gathered from several texts.
-/
import Derived.Test.YtidelghgjibndaaGreatM7t5
namespace Go.Proofs.YtidelghgjibndaaGreat
set_option linter.unusedVariables false
open Go.RowKit
/-- what reach asks of its numbers -/
structure ReachB (cx cy X Y NX NY D : Int) : Prop where
  c : -2000000 ≤ cx ∧ cx ≤ 2000000 ∧ -2000000 ≤ cy ∧ cy ≤ 2000000
  x : -9444732965739290427392 ≤ X ∧ X ≤ 9444732965739290427392
  y : -9444732965739290427392 ≤ Y ∧ Y ≤ 9444732965739290427392
  nx : 0 ≤ NX ∧ NX ≤ 9444732965739290427392
  ny : 0 ≤ NY ∧ NY ≤ 9444732965739290427392
  d : 0 < D ∧ D ≤ 562949953421312
set_option maxHeartbeats 8000000 in
set_option maxRecDepth 100000 in
theorem sizes_any (x y d : Int) (w : World) (hx0 : 0 ≤ x) (hx : x < 85070591730234615865843651857942052864) (hy0 : 0 ≤ y) (hy : y < 85070591730234615865843651857942052864) (hd : 0 < d) (hd1 : d ≤ 9223372036854775807) :
    Calls Tryz.prog 61 #[wv x, wv y, .int .i64 d] w fun e w' => e = .returned (.tuple #[.int .i64 (pairF x y d).1.1, .int .i64 (pairF x y d).1.2, .int .i64 (pairF x y d).2]) ∧ Below w.heap.size w w' := by
  have SX := Lib.hid fun w => size_any x d w hx0 hx hd hd1
  have SY := Lib.hid fun w => size_any y d w hy0 hy hd hd1
  have E0 : pairF x y d = if ceilI x d ≤ 8000000 ∧ ceilI y d ≤ 8000000 then ((ceilI x d, ceilI y d), 0) else ((0, 0), 2) := rfl
  clear hx0 hx hy0 hy hd hd1
  generalize pairF x y d = P at *
  generalize ceilI x d = u at *
  generalize ceilI y d = v at *
  unfold wv at *
  by_cases h : u ≤ 8000000
  · rw [if_pos h] at SX
    by_cases k : v ≤ 8000000
    · rw [if_pos k] at SY
      have E := Lib.hid (E0.trans (if_pos ⟨h, k⟩))
      clear E0 h k
      obtain ⟨KX, KY, HB⟩ := ent2 w #[.int .i64 (hiW x), .int .u64 (loW x)] 79 #[.int .i64 (hiW y), .int .u64 (loW y)] 79
      go_enter Tryz.func61, Tryz.ntmps61
      go_wp2_with fail
      generalize (w.alloc (.cells #[.int .i64 (hiW x), .int .u64 (loW x)] 79)).alloc (.cells #[.int .i64 (hiW y), .int .u64 (loW y)] 79) = w0 at *
      refine (SX.out _).mono ?_
      rintro e1 w1 ⟨rfl, hb1⟩
      replace HB := hT HB hb1
      replace KX := hK KX hb1
      replace KY := hK KY hb1
      clear hb1
      obtain ⟨yY_0, yY_1, yY_z⟩ := blk2 KY
      go_wp2_with fail
      refine (SY.out _).mono ?_
      rintro e2 w2 ⟨rfl, hb2⟩
      replace HB := hT HB hb2
      replace KX := hK KX hb2
      replace KY := hK KY hb2
      clear yY_0 yY_1 yY_z
      clear hb2
      go_wp2
      refine bodyPost_ret (v := .tuple #[.int .i64 u, .int .i64 v, .int .i64 0]) (by simp [results, Tryz.results61, go_sem]) rfl ⟨by rw [E.out], HB.out⟩
    · rw [if_neg k] at SY
      have E := Lib.hid (E0.trans (if_neg fun q => k q.2))
      clear E0 h k
      obtain ⟨KX, KY, HB⟩ := ent2 w #[.int .i64 (hiW x), .int .u64 (loW x)] 79 #[.int .i64 (hiW y), .int .u64 (loW y)] 79
      go_enter Tryz.func61, Tryz.ntmps61
      go_wp2_with fail
      generalize (w.alloc (.cells #[.int .i64 (hiW x), .int .u64 (loW x)] 79)).alloc (.cells #[.int .i64 (hiW y), .int .u64 (loW y)] 79) = w0 at *
      refine (SX.out _).mono ?_
      rintro e1 w1 ⟨rfl, hb1⟩
      replace HB := hT HB hb1
      replace KX := hK KX hb1
      replace KY := hK KY hb1
      clear hb1
      obtain ⟨yY_0, yY_1, yY_z⟩ := blk2 KY
      go_wp2_with fail
      refine (SY.out _).mono ?_
      rintro e2 w2 ⟨rfl, hb2⟩
      replace HB := hT HB hb2
      replace KX := hK KX hb2
      replace KY := hK KY hb2
      clear yY_0 yY_1 yY_z
      clear hb2
      go_wp2
      refine bodyPost_ret (v := .tuple #[.int .i64 0, .int .i64 0, .int .i64 2]) (by simp [results, Tryz.results61, go_sem]) rfl ⟨by rw [E.out], HB.out⟩
  · rw [if_neg h] at SX
    by_cases k : v ≤ 8000000
    · rw [if_pos k] at SY
      have E := Lib.hid (E0.trans (if_neg fun q => h q.1))
      clear E0 h k
      obtain ⟨KX, KY, HB⟩ := ent2 w #[.int .i64 (hiW x), .int .u64 (loW x)] 79 #[.int .i64 (hiW y), .int .u64 (loW y)] 79
      go_enter Tryz.func61, Tryz.ntmps61
      go_wp2_with fail
      generalize (w.alloc (.cells #[.int .i64 (hiW x), .int .u64 (loW x)] 79)).alloc (.cells #[.int .i64 (hiW y), .int .u64 (loW y)] 79) = w0 at *
      refine (SX.out _).mono ?_
      rintro e1 w1 ⟨rfl, hb1⟩
      replace HB := hT HB hb1
      replace KX := hK KX hb1
      replace KY := hK KY hb1
      clear hb1
      obtain ⟨yY_0, yY_1, yY_z⟩ := blk2 KY
      go_wp2_with fail
      refine (SY.out _).mono ?_
      rintro e2 w2 ⟨rfl, hb2⟩
      replace HB := hT HB hb2
      replace KX := hK KX hb2
      replace KY := hK KY hb2
      clear yY_0 yY_1 yY_z
      clear hb2
      go_wp2
      refine bodyPost_ret (v := .tuple #[.int .i64 0, .int .i64 0, .int .i64 2]) (by simp [results, Tryz.results61, go_sem]) rfl ⟨by rw [E.out], HB.out⟩
    · rw [if_neg k] at SY
      have E := Lib.hid (E0.trans (if_neg fun q => h q.1))
      clear E0 h k
      obtain ⟨KX, KY, HB⟩ := ent2 w #[.int .i64 (hiW x), .int .u64 (loW x)] 79 #[.int .i64 (hiW y), .int .u64 (loW y)] 79
      go_enter Tryz.func61, Tryz.ntmps61
      go_wp2_with fail
      generalize (w.alloc (.cells #[.int .i64 (hiW x), .int .u64 (loW x)] 79)).alloc (.cells #[.int .i64 (hiW y), .int .u64 (loW y)] 79) = w0 at *
      refine (SX.out _).mono ?_
      rintro e1 w1 ⟨rfl, hb1⟩
      replace HB := hT HB hb1
      replace KX := hK KX hb1
      replace KY := hK KY hb1
      clear hb1
      obtain ⟨yY_0, yY_1, yY_z⟩ := blk2 KY
      go_wp2_with fail
      refine (SY.out _).mono ?_
      rintro e2 w2 ⟨rfl, hb2⟩
      replace HB := hT HB hb2
      replace KX := hK KX hb2
      replace KY := hK KY hb2
      clear yY_0 yY_1 yY_z
      clear hb2
      go_wp2
      refine bodyPost_ret (v := .tuple #[.int .i64 0, .int .i64 0, .int .i64 2]) (by simp [results, Tryz.results61, go_sem]) rfl ⟨by rw [E.out], HB.out⟩
theorem apart_bd {p d x : Int} (hp0 : -2000000 ≤ p) (hp : p ≤ 2000000) (hd0 : 0 < d) (hd : d ≤ 562949953421312) (hx0 : -9444732965739290427392 ≤ x) (hx : x ≤ 9444732965739290427392) :
    -10570632872582575427392 ≤ p * d - x ∧ p * d - x ≤ 10570632872582575427392 ∧ 0 ≤ absZ (p * d - x) ∧ absZ (p * d - x) ≤ 10570632872582575427392 := by
  have h := mulb (X := 2000000) (Y := 562949953421312) (x := p) (y := d) (by omega) hp0 hp (by omega) hd
  have h1 : -10570632872582575427392 ≤ p * d - x := by omega
  have h2 : p * d - x ≤ 10570632872582575427392 := by omega
  exact ⟨h1, h2, absZ_ge _, absZ_le h1 h2⟩
set_option maxHeartbeats 8000000 in
set_option maxRecDepth 100000 in
theorem reach_any (cx cy X Y NX NY D : Int) (w : World) (h : ReachB cx cy X Y NX NY D) :
    Calls Tryz.prog 31 #[.agg #[.int .i64 cx, .int .i64 cy], .agg #[.int .i64 (hiW X), .int .u64 (loW X), .int .i64 (hiW Y), .int .u64 (loW Y), .int .i64 (hiW NX), .int .u64 (loW NX), .int .i64 (hiW NY), .int .u64 (loW NY), .int .i64 D]] w fun e w' => e = .returned (.tuple #[.int .i64 (pairF (apartI cx X D + NX) (apartI cy Y D + NY) D).1.1, .int .i64 (pairF (apartI cx X D + NX) (apartI cy Y D + NY) D).1.2, .int .i64 (pairF (apartI cx X D + NX) (apartI cy Y D + NY) D).2]) ∧ Below w.heap.size w w' := by
  obtain ⟨⟨c0, c1, c2, c3⟩, ⟨x0, x1⟩, ⟨y0, y1⟩, ⟨nx0, nx1⟩, ⟨ny0, ny1⟩, d0, d1⟩ := h
  obtain ⟨a0, a1, a2, a3⟩ := apart_bd c0 c1 d0 d1 x0 x1
  obtain ⟨b0, b1, b2, b3⟩ := apart_bd c2 c3 d0 d1 y0 y1
  have AX := Lib.hid fun w => apart_any cx X D w ⟨by omega, by omega⟩ ⟨by omega, by omega⟩ ⟨by omega, by omega⟩ ⟨by omega, by omega⟩ ⟨by omega, by omega⟩
  have AY := Lib.hid fun w => apart_any cy Y D w ⟨by omega, by omega⟩ ⟨by omega, by omega⟩ ⟨by omega, by omega⟩ ⟨by omega, by omega⟩ ⟨by omega, by omega⟩
  unfold apartI
  generalize absZ (cx * D - X) = u at *
  generalize absZ (cy * D - Y) = v at *
  have PX := Lib.hid fun w => plus_any u NX w ⟨by omega, by omega⟩ ⟨by omega, by omega⟩ ⟨by omega, by omega⟩
  have PY := Lib.hid fun w => plus_any v NY w ⟨by omega, by omega⟩ ⟨by omega, by omega⟩ ⟨by omega, by omega⟩
  have SZ := Lib.hid fun w => sizes_any (u + NX) (v + NY) D w (by omega) (by omega) (by omega) (by omega) d0 (by omega)
  generalize pairF (u + NX) (v + NY) D = q at *
  generalize u + NX = s at *
  generalize v + NY = t at *
  unfold wv at *
  clear c0 c1 c2 c3 x0 x1 y0 y1 nx0 nx1 ny0 ny1 d0 d1 a0 a1 a2 a3 b0 b1 b2 b3
  obtain ⟨KP, KS, HB⟩ := ent2 w #[.int .i64 cx, .int .i64 cy] 24 #[.int .i64 (hiW X), .int .u64 (loW X), .int .i64 (hiW Y), .int .u64 (loW Y), .int .i64 (hiW NX), .int .u64 (loW NX), .int .i64 (hiW NY), .int .u64 (loW NY), .int .i64 D] 88
  go_enter Tryz.func31, Tryz.ntmps31
  go_wp2_with fail
  generalize (w.alloc (.cells #[.int .i64 cx, .int .i64 cy] 24)).alloc (.cells #[.int .i64 (hiW X), .int .u64 (loW X), .int .i64 (hiW Y), .int .u64 (loW Y), .int .i64 (hiW NX), .int .u64 (loW NX), .int .i64 (hiW NY), .int .u64 (loW NY), .int .i64 D] 88) = w0 at *
  have gP_0 := fun d os => cell_regrown (KP.out.c 0 _ rfl) d os
  have gP_1 := fun d os => cell_regrown (KP.out.c 1 _ rfl) d os
  have gS_0 := fun d os => cell_regrown (KS.out.c 0 _ rfl) d os
  have gS_1 := fun d os => cell_regrown (KS.out.c 1 _ rfl) d os
  have gS_2 := fun d os => cell_regrown (KS.out.c 2 _ rfl) d os
  have gS_3 := fun d os => cell_regrown (KS.out.c 3 _ rfl) d os
  have gS_4 := fun d os => cell_regrown (KS.out.c 4 _ rfl) d os
  have gS_5 := fun d os => cell_regrown (KS.out.c 5 _ rfl) d os
  have gS_6 := fun d os => cell_regrown (KS.out.c 6 _ rfl) d os
  have gS_7 := fun d os => cell_regrown (KS.out.c 7 _ rfl) d os
  have gS_8 := fun d os => cell_regrown (KS.out.c 8 _ rfl) d os
  have rv0 := Lib.hid (fun d os => Calls.regrown_of (AX.out (Go.Sort.grow (redrawn w0 d) os)))
  have rv1 := Lib.hid (fun d os => Calls.regrown_of (AY.out (Go.Sort.grow (redrawn w0 d) os)))
  have rv2 := Lib.hid (fun d os => Calls.regrown_of (PX.out (Go.Sort.grow (redrawn w0 d) os)))
  have rv3 := Lib.hid (fun d os => Calls.regrown_of (PY.out (Go.Sort.grow (redrawn w0 d) os)))
  have rv4 := Lib.hid (fun d os => Calls.regrown_of (SZ.out (Go.Sort.grow (redrawn w0 d) os)))
  refine wp_region_quiet_below (by kernel_rfl) (by kernel_rfl) ?_
  repeat (quiet_step (first | with_reducible exact rv0.out _ _ | with_reducible exact rv1.out _ _ | with_reducible exact rv2.out _ _ | with_reducible exact rv3.out _ _ | with_reducible exact rv4.out _ _))
  refine wpQuiet_nil ?_
  intro w1 hw1
  have hb1 : Below w0.heap.size w0 w1 := by
    obtain ⟨⟨dq, osq⟩, hw2⟩ := hw1
    rw [hw2]; exact below_regrown _ dq osq
  clear gP_0 gP_1 gS_0 gS_1 gS_2 gS_3 gS_4 gS_5 gS_6 gS_7 gS_8 rv0 rv1 rv2 rv3 rv4 hw1
  replace HB := hT HB hb1
  replace KP := hK KP hb1
  replace KS := hK KS hb1
  clear hb1
  go_wp2
  refine bodyPost_ret (v := .tuple #[.int .i64 q.1.1, .int .i64 q.1.2, .int .i64 q.2]) (by simp [results, Tryz.results31, go_sem]) rfl ⟨rfl, HB.out⟩
end Go.Proofs.YtidelghgjibndaaGreat
namespace Go.Proofs.YtidelghgjibndaaGreat
set_option linter.unusedVariables false
open Go.RowKit
theorem far9 {m b c : Nat} {W : World} (h : m ≤ c) (hb : b < m) {v0 v1 v2 v3 v4 v5 v6 v7 v8 : Value} (i : Nat) : (((((((((W.setCell ⟨c, 0, none⟩ v0).setCell ⟨c, 1, none⟩ v1).setCell ⟨c, 2, none⟩ v2).setCell ⟨c, 3, none⟩ v3).setCell ⟨c, 4, none⟩ v4).setCell ⟨c, 5, none⟩ v5).setCell ⟨c, 6, none⟩ v6).setCell ⟨c, 7, none⟩ v7).setCell ⟨c, 8, none⟩ v8).cell? ⟨b, i, none⟩ = W.cell? ⟨b, i, none⟩ :=
  have hne : c ≠ b := by omega
  (((((((((World.cell?_setCell_far _ _ _ _ hne).trans (World.cell?_setCell_far _ _ _ _ hne)).trans (World.cell?_setCell_far _ _ _ _ hne)).trans (World.cell?_setCell_far _ _ _ _ hne)).trans (World.cell?_setCell_far _ _ _ _ hne)).trans (World.cell?_setCell_far _ _ _ _ hne)).trans (World.cell?_setCell_far _ _ _ _ hne)).trans (World.cell?_setCell_far _ _ _ _ hne)).trans (World.cell?_setCell_far _ _ _ _ hne))
/-- a way out that is the normal one alone -/
def OnlyN (R : Act → World → Prop) : Exit → Act → World → Prop
  | .normal, a, w => R a w
  | _, _, _ => False
theorem OnlyN.mk {R : Act → World → Prop} {a : Act} {w : World} (h : R a w) : OnlyN R .normal a w := h
theorem OnlyN.imp {R : Act → World → Prop} {Q : Exit → Act → World → Prop} (k : ∀ a w, R a w → Q .normal a w) : ∀ (e : Exit) (a : Act) (w : World), OnlyN R e a w → Q e a w := fun e a w h => by
  cases e <;> first | exact k a w h | exact (h : False).elim
/-- all the ways through a region that draws its order, joined: their states are alike but for a block's number -/
theorem wp_join {P : Program} {c : Code} {Q : Exit → Act → World → Prop} {a : Act} {w : World} {F : Nat → Act} {R : Nat → World → Prop} (h : c.wp P (OnlyN fun a' w' => ∃ b, a' = F b ∧ R b w') a w) (k : ∀ b w', R b w' → Q .normal (F b) w') : c.wp P Q a w :=
  Code.wp_mono (OnlyN.imp fun a' w' ⟨b, ha, hr⟩ => by subst ha; exact k b w' hr) h
theorem wp_join0 {P : Program} {c : Code} {Q : Exit → Act → World → Prop} {a : Act} {w : World} {A : Act} {R : World → Prop} (h : c.wp P (OnlyN fun a' w' => a' = A ∧ R w') a w) (k : ∀ w', R w' → Q .normal A w') : c.wp P Q a w :=
  Code.wp_mono (OnlyN.imp fun a' w' ⟨ha, hr⟩ => by subst ha; exact k w' hr) h
theorem abs_anyZ (x : Int) (w : World) (h0 : -9223372036854775807 ≤ x) (h1 : x ≤ 9223372036854775807) :
    Calls Tryz.prog 43 #[.int .i64 x] w fun e w' => e = .returned (.int .i64 (absZ x)) ∧ Below w.heap.size w w' := regrown_drewN (B := 0) (w' := w) (abs_any x w h0 h1)
def nxF (l : List Ms) (m : Ms) : Int := m.w * absZ (nYY l * m.a - nXY l * m.b) * m.d
def nyF (l : List Ms) (m : Ms) : Int := m.w * absZ (nXX l * m.b - nXY l * m.a) * m.d
theorem noiX_is (l : List Ms) : noiX l = sumL (nxF l) l := rfl
theorem noiY_is (l : List Ms) : noiY l = sumL (nyF l) l := rfl
/-- one measurement of the noise along an axis -/
structure SvHalf (u v a b : Int) (m : Ms) (U U1 : Int) : Prop where
  s1 : IntKind.i64.wrap (u * a) = u * a
  s2 : IntKind.i64.wrap (v * b) = v * b
  s3 : IntKind.i64.wrap (u * a - v * b) = u * a - v * b
  s4 : IntKind.i64.wrap (m.w * absZ (u * a - v * b)) = m.w * absZ (u * a - v * b)
  ab : ∀ w, Calls Tryz.prog 43 #[.int .i64 (u * a - v * b)] w fun e w' => e = .returned (.int .i64 (absZ (u * a - v * b))) ∧ Below w.heap.size w w'
  mu : ∀ w, Calls Tryz.prog 60 #[.int .i64 (m.w * absZ (u * a - v * b)), .int .i64 m.d] w fun e w' => e = .returned (wv (m.w * absZ (u * a - v * b) * m.d)) ∧ Below w.heap.size w w'
  pl : ∀ w, Calls Tryz.prog 59 #[wv U, wv (m.w * absZ (u * a - v * b) * m.d)] w fun e w' => e = .returned (wv U1) ∧ Below w.heap.size w w'
theorem sv_half {m : Ms} (o : OkM m) {u v a b U U1 : Int} (hu0 : -16777216 ≤ u) (hu : u ≤ 16777216) (hv0 : -16777216 ≤ v) (hv : v ≤ 16777216) (ha0 : -256 ≤ a) (ha : a ≤ 256) (hb0 : -256 ≤ b) (hb : b ≤ 256)
    (hU0 : 0 ≤ U) (hU : U ≤ 9444732965739290427392) (e : U1 = U + m.w * absZ (u * a - v * b) * m.d) : SvHalf u v a b m U U1 := by
  obtain ⟨t0, t1, t2, t3, t4, t5⟩ := noi_term o hu0 hu hv0 hv ha0 ha hb0 hb
  have p1 := mulb (X := 16777216) (Y := 256) (by omega) hu0 hu ha0 ha
  have p2 := mulb (X := 16777216) (Y := 256) (by omega) hv0 hv hb0 hb
  have d0 := o.d0
  have d1 := o.d1
  refine ⟨IntWalk.i64_in _ (by omega), IntWalk.i64_in _ (by omega), IntWalk.i64_in _ (by omega), IntWalk.i64_in _ (by omega), fun w => abs_anyZ _ w (by omega) (by omega), fun w => wmul_any _ _ w (by omega) (by omega) (by omega) (by omega), fun w => ?_⟩
  rw [e]
  exact plus_any _ _ w ⟨by omega, by omega⟩ ⟨by omega, by omega⟩ ⟨by omega, by omega⟩
theorem noi_part {l : List Ms} (h : OkL l) (k : Nat) : (0 ≤ sumL (nxF l) (l.take k) ∧ sumL (nxF l) (l.take k) ≤ 9444732965739290427392) ∧ 0 ≤ sumL (nyF l) (l.take k) ∧ sumL (nyF l) (l.take k) ≤ 9444732965739290427392 := by
  obtain ⟨⟨a0, a1⟩, ⟨b0, b1⟩, ⟨c0, c1⟩, _, _⟩ := nrm_bd h
  have o := h.take k
  have f1 : ∀ m ∈ l.take k, 0 ≤ nxF l m ∧ nxF l m ≤ 590295810358705651712 := fun m hm => by
    have q := o.ok m hm
    obtain ⟨_, _, _, _, t4, t5⟩ := noi_term q c0 c1 b0 b1 q.a0 q.a1 q.b0 q.b1
    exact ⟨t4, t5⟩
  have f2 : ∀ m ∈ l.take k, 0 ≤ nyF l m ∧ nyF l m ≤ 590295810358705651712 := fun m hm => by
    have q := o.ok m hm
    obtain ⟨_, _, _, _, t4, t5⟩ := noi_term q a0 a1 b0 b1 q.b0 q.b1 q.a0 q.a1
    exact ⟨t4, t5⟩
  have s1 := o.sum (nxF l) 590295810358705651712 (by omega) fun m hm => by have := f1 m hm; omega
  have s2 := o.sum (nyF l) 590295810358705651712 (by omega) fun m hm => by have := f2 m hm; omega
  have n1 := sum_nonneg (nxF l) (l.take k) fun m hm => (f1 m hm).1
  have n2 := sum_nonneg (nyF l) (l.take k) fun m hm => (f2 m hm).1
  omega
theorem noi_bd {l : List Ms} (h : OkL l) : (0 ≤ noiX l ∧ noiX l ≤ 9444732965739290427392) ∧ 0 ≤ noiY l ∧ noiY l ≤ 9444732965739290427392 := by
  have := noi_part h l.length
  rw [List.take_length] at this
  exact this
theorem sv_step {l : List Ms} (h : OkL l) {k : Nat} (q : k < l.length) :
    SvHalf (nYY l) (nXY l) (nth l k).a (nth l k).b (nth l k) (sumL (nxF l) (l.take k)) (sumL (nxF l) (l.take (k + 1))) ∧ SvHalf (nXX l) (nXY l) (nth l k).b (nth l k).a (nth l k) (sumL (nyF l) (l.take k)) (sumL (nyF l) (l.take (k + 1))) := by
  obtain ⟨⟨a0, a1⟩, ⟨b0, b1⟩, ⟨c0, c1⟩, _, _⟩ := nrm_bd h
  have o := h.ok _ (nth_mem q)
  have N := noi_part h k
  exact ⟨sv_half o c0 c1 b0 b1 o.a0 o.a1 o.b0 o.b1 N.1.1 N.1.2 (sum_take _ q), sv_half o a0 a1 b0 b1 o.b0 o.b1 o.a0 o.a1 N.2.1 N.2.2 (sum_take _ q)⟩
def SvR (l : List Ms) (p : Option Addr) (cap : Nat) (w : World) (bn bs : Nat) (u : Value) (wr : World) : Prop := ∃ k : Nat, u = .int .i64 k ∧ k ≤ l.length ∧ Hid (Below w.heap.size w wr) ∧ Hid (Blk [.int .i64 (nXX l), .int .i64 (nXY l), .int .i64 (nYY l), .int .i64 (nXZ l), .int .i64 (nYZ l)] bn wr) ∧ Hid (Blk [.int .i64 (hiW (solX l)), .int .u64 (loW (solX l)), .int .i64 (hiW (solY l)), .int .u64 (loW (solY l)), .int .i64 (hiW (sumL (nxF l) (l.take k))), .int .u64 (loW (sumL (nxF l) (l.take k))), .int .i64 (hiW (sumL (nyF l) (l.take k))), .int .u64 (loW (sumL (nyF l) (l.take k))), .int .i64 ((detN l))] bs wr) ∧ Hid (Blk [.int .i64 0, .int .u64 0, .int .i64 0, .int .u64 0, .int .i64 0, .int .u64 0, .int .i64 0, .int .u64 0, .int .i64 0] w.heap.size wr)
set_option maxHeartbeats 40000000 in
set_option maxRecDepth 100000 in
theorem solve_any (l : List Ms) (v : Value) (w : World) (h : LstAt l v w) (hc : chkL l = 0) :
    Calls Tryz.prog 30 #[v] w fun e w' => e = .returned (.agg #[.int .i64 (hiW (solX l)), .int .u64 (loW (solX l)), .int .i64 (hiW (solY l)), .int .u64 (loW (solY l)), .int .i64 (hiW (noiX l)), .int .u64 (loW (noiX l)), .int .i64 (hiW (noiY l)), .int .u64 (loW (noiY l)), .int .i64 ((detN l))]) ∧ Below w.heap.size w w' := by
  obtain ⟨p, cap, rfl⟩ := lst_form h
  have OL := Lib.hid (okL_of hc)
  obtain ⟨⟨a0, a1⟩, ⟨b0, b1⟩, ⟨c0, c1⟩, ⟨d0, d1⟩, ⟨e0, e1⟩⟩ := nrm_bd OL.out
  obtain ⟨⟨dt0, dt1⟩, ⟨sx0, sx1⟩, ⟨sy0, sy1⟩⟩ := sol_bd (nrm_bd OL.out)
  have NO := Lib.hid fun w h => normal_any l (.slice p l.length cap) w h hc
  have P1 := mulb (X := 16777216) (Y := 16777216) (by omega) a0 a1 c0 c1
  have P2 := mulb (X := 16777216) (Y := 16777216) (by omega) b0 b1 b0 b1
  have LX := Lib.hid fun w => integrity_less (nYY l) (nXZ l) (nXY l) (nYZ l) w ⟨by omega, by omega⟩ ⟨by omega, by omega⟩ ⟨by omega, by omega⟩ ⟨by omega, by omega⟩ (show FitW (solX l) from ⟨by omega, by omega⟩)
  have LY := Lib.hid fun w => integrity_less (nXX l) (nYZ l) (nXY l) (nXZ l) w ⟨by omega, by omega⟩ ⟨by omega, by omega⟩ ⟨by omega, by omega⟩ ⟨by omega, by omega⟩ (show FitW (solY l) from ⟨by omega, by omega⟩)
  have q1 : IntKind.i64.wrap (nXX l * nYY l) = nXX l * nYY l := IntWalk.i64_in _ (by omega)
  have q2 : IntKind.i64.wrap (nXY l * nXY l) = nXY l * nXY l := IntWalk.i64_in _ (by omega)
  have q3 : IntKind.i64.wrap (nXX l * nYY l - nXY l * nXY l) = detN l := IntWalk.i64_in _ (by unfold detN at dt0 dt1; omega)
  have HX : Hid (solX l = nYY l * nXZ l - nXY l * nYZ l) := Lib.hid rfl
  have HY : Hid (solY l = nXX l * nYZ l - nXY l * nXZ l) := Lib.hid rfl
  rw [← HX.out] at LX
  rw [← HY.out] at LY
  clear hc a0 a1 b0 b1 c0 c1 d0 d1 e0 e1 dt0 dt1 sx0 sx1 sy0 sy1 P1 P2 HX HY
  obtain ⟨A, EA⟩ : ∃ x, nXX l = x := ⟨_, rfl⟩
  obtain ⟨B, EB⟩ : ∃ x, nXY l = x := ⟨_, rfl⟩
  obtain ⟨C, EC⟩ : ∃ x, nYY l = x := ⟨_, rfl⟩
  obtain ⟨D, ED⟩ : ∃ x, nXZ l = x := ⟨_, rfl⟩
  obtain ⟨E, EE⟩ : ∃ x, nYZ l = x := ⟨_, rfl⟩
  obtain ⟨X, EX⟩ : ∃ x, solX l = x := ⟨_, rfl⟩
  obtain ⟨Y, EY⟩ : ∃ x, solY l = x := ⟨_, rfl⟩
  obtain ⟨T, ET⟩ : ∃ x, detN l = x := ⟨_, rfl⟩
  rw [EA, EB, EC, ED, EE] at NO
  rw [EC, ED, EB, EE, EX] at LX
  rw [EA, EE, EB, ED, EY] at LY
  rw [EA, EC] at q1
  rw [EB] at q2
  rw [EA, EB, EC, ET] at q3
  have HA := Lib.hid EA
  have HBB := Lib.hid EB
  have HC := Lib.hid EC
  have HD := Lib.hid ED
  have HE := Lib.hid EE
  have HX := Lib.hid EX
  have HY := Lib.hid EY
  have HT := Lib.hid ET
  clear EA EB EC ED EE EX EY ET
  unfold wv at LX LY
  have H0 := Lib.hid h
  obtain ⟨KZ, HB⟩ := ent1 w #[.int .i64 0, .int .u64 0, .int .i64 0, .int .u64 0, .int .i64 0, .int .u64 0, .int .i64 0, .int .u64 0, .int .i64 0] 88
  go_enter Tryz.func30, Tryz.ntmps30
  clear h
  go_wp2_with fail
  generalize w.alloc (.cells #[.int .i64 0, .int .u64 0, .int .i64 0, .int .u64 0, .int .i64 0, .int .u64 0, .int .i64 0, .int .u64 0, .int .i64 0] 88) = w0 at *
  refine (NO.out _ (H0.out.below HB.out)).mono ?_
  rintro e1 w1 ⟨rfl, hb1⟩
  replace HB := hT HB hb1
  replace KZ := hK KZ hb1
  clear hb1
  go_wp2_with fail
  obtain ⟨KN, hb2⟩ := alB w1 #[.int .i64 A, .int .i64 B, .int .i64 C, .int .i64 D, .int .i64 E] 112
  have hnN := HB.out.size
  have nzN_Z := KZ.out.lt
  replace HB := hT HB hb2
  replace KZ := hK KZ hb2
  clear hb2
  generalize w1.alloc (.cells #[.int .i64 A, .int .i64 B, .int .i64 C, .int .i64 D, .int .i64 E] 112) = w2 at *
  generalize w1.heap.size = bN at *
  have neN_Z : bN ≠ w.heap.size := by omega
  clear nzN_Z
  have BD := Lib.hid (show Below w2.heap.size w2 w2.drew from ⟨rfl, rfl, rfl, Nat.le_refl _, fun _ _ => rfl⟩)
  have BD2 := Lib.hid (below_drew_alloc w2 (.cells #[.int .i64 0, .int .u64 0, .int .i64 0, .int .u64 0, .int .i64 0, .int .u64 0, .int .i64 0, .int .u64 0, .int .i64 0] 88))
  have DLX := Lib.hid fun W (h : Below w2.heap.size w2 W) => (LX.out W).mono fun e w' ⟨h1, h2⟩ => show _ ∧ Below w2.heap.size w2 w' ∧ Below W.heap.size W w' from ⟨h1, h.trans (h2.mono h.size), h2⟩
  have DLY := Lib.hid fun W (h : Below w2.heap.size w2 W) => (LY.out W).mono fun e w' ⟨h1, h2⟩ => show _ ∧ Below w2.heap.size w2 w' ∧ Below W.heap.size W w' from ⟨h1, h.trans (h2.mono h.size), h2⟩
  obtain ⟨yN_0, yN_1, yN_2, yN_3, yN_4, yN_z⟩ := blk5 KN
  apply wp_join (R := fun b w' => w.heap.size ≤ b ∧ b ≠ w.heap.size ∧ b ≠ bN ∧ Hid (Below w.heap.size w w') ∧ Hid (Blk [.int .i64 (hiW X), .int .u64 (loW X), .int .i64 (hiW Y), .int .u64 (loW Y), .int .i64 0, .int .u64 0, .int .i64 0, .int .u64 0, .int .i64 T] b w') ∧ Hid (Blk [.int .i64 0, .int .u64 0, .int .i64 0, .int .u64 0, .int .i64 0, .int .u64 0, .int .i64 0, .int .u64 0, .int .i64 0] w.heap.size w') ∧ Hid (Blk [.int .i64 A, .int .i64 B, .int .i64 C, .int .i64 D, .int .i64 E] bN w'))
  · go_region_held3 (fun w' => w'.cell? ⟨bN, 0, none⟩ = some (.int .i64 A) ∧ w'.cell? ⟨bN, 1, none⟩ = some (.int .i64 B) ∧ w'.cell? ⟨bN, 2, none⟩ = some (.int .i64 C) ∧ w'.cell? ⟨bN, 3, none⟩ = some (.int .i64 D) ∧ w'.cell? ⟨bN, 4, none⟩ = some (.int .i64 E)) (first | (refine ⟨?_, ?_, ?_, ?_, ?_⟩ <;> first | with_reducible assumption | (rw [far9 KV.out.1 yN_z]; with_reducible assumption)) | go_keep)
      (first
        | (go_at_call 58; with_reducible refine Calls.mono (DLX.out _ (by first | with_reducible exact BD.out | with_reducible exact BD2.out | with_reducible exact HX.out | with_reducible exact HX.out.alloc HX.out.size _)) ?_; rintro e9 w9 ⟨rfl, hb9, hc9⟩; have pN := KN.out.below hb9; have qN0 := pN.c 0 _ rfl; have qN1 := pN.c 1 _ rfl; have qN2 := pN.c 2 _ rfl; have qN3 := pN.c 3 _ rfl; have qN4 := pN.c 4 _ rfl; clear pN; (first | (with_reducible have KV := Lib.hid (kv_drew (vs := #[.int .i64 0, .int .u64 0, .int .i64 0, .int .u64 0, .int .i64 0, .int .u64 0, .int .i64 0, .int .u64 0, .int .i64 0]) (t := 88) hc9); have pV := KV.out.2; have v0 := pV.c 0 _ rfl; have vf0 := pV.f 0 _ rfl; have v1 := pV.c 1 _ rfl; have vf1 := pV.f 1 _ rfl; have v2 := pV.c 2 _ rfl; have vf2 := pV.f 2 _ rfl; have v3 := pV.c 3 _ rfl; have vf3 := pV.f 3 _ rfl; have v4 := pV.c 4 _ rfl; have vf4 := pV.f 4 _ rfl; have v5 := pV.c 5 _ rfl; have vf5 := pV.f 5 _ rfl; have v6 := pV.c 6 _ rfl; have vf6 := pV.f 6 _ rfl; have v7 := pV.c 7 _ rfl; have vf7 := pV.f 7 _ rfl; have v8 := pV.c 8 _ rfl; have vf8 := pV.f 8 _ rfl; have v9 := pV.lt; clear pV) | (with_reducible have KV := Lib.hid (kv_new (vs := #[.int .i64 0, .int .u64 0, .int .i64 0, .int .u64 0, .int .i64 0, .int .u64 0, .int .i64 0, .int .u64 0, .int .i64 0]) (t := 88) HX.out hc9); have pV := KV.out.2; have v0 := pV.c 0 _ rfl; have vf0 := pV.f 0 _ rfl; have v1 := pV.c 1 _ rfl; have vf1 := pV.f 1 _ rfl; have v2 := pV.c 2 _ rfl; have vf2 := pV.f 2 _ rfl; have v3 := pV.c 3 _ rfl; have vf3 := pV.f 3 _ rfl; have v4 := pV.c 4 _ rfl; have vf4 := pV.f 4 _ rfl; have v5 := pV.c 5 _ rfl; have vf5 := pV.f 5 _ rfl; have v6 := pV.c 6 _ rfl; have vf6 := pV.f 6 _ rfl; have v7 := pV.c 7 _ rfl; have vf7 := pV.f 7 _ rfl; have v8 := pV.c 8 _ rfl; have vf8 := pV.f 8 _ rfl; have v9 := pV.lt; clear pV) | (with_reducible have KV := Lib.hid (kv_old KV.out hc9); have pV := KV.out.2; have v0 := pV.c 0 _ rfl; have vf0 := pV.f 0 _ rfl; have v1 := pV.c 1 _ rfl; have vf1 := pV.f 1 _ rfl; have v2 := pV.c 2 _ rfl; have vf2 := pV.f 2 _ rfl; have v3 := pV.c 3 _ rfl; have vf3 := pV.f 3 _ rfl; have v4 := pV.c 4 _ rfl; have vf4 := pV.f 4 _ rfl; have v5 := pV.c 5 _ rfl; have vf5 := pV.f 5 _ rfl; have v6 := pV.c 6 _ rfl; have vf6 := pV.f 6 _ rfl; have v7 := pV.c 7 _ rfl; have vf7 := pV.f 7 _ rfl; have v8 := pV.c 8 _ rfl; have vf8 := pV.f 8 _ rfl; have v9 := pV.lt; clear pV) | skip); have HX := Lib.hid hb9; clear hb9 hc9)
        | (go_at_call 58; with_reducible refine Calls.mono (DLY.out _ (by first | with_reducible exact BD.out | with_reducible exact BD2.out | with_reducible exact HX.out | with_reducible exact HX.out.alloc HX.out.size _)) ?_; rintro e9 w9 ⟨rfl, hb9, hc9⟩; have pN := KN.out.below hb9; have qN0 := pN.c 0 _ rfl; have qN1 := pN.c 1 _ rfl; have qN2 := pN.c 2 _ rfl; have qN3 := pN.c 3 _ rfl; have qN4 := pN.c 4 _ rfl; clear pN; (first | (with_reducible have KV := Lib.hid (kv_drew (vs := #[.int .i64 0, .int .u64 0, .int .i64 0, .int .u64 0, .int .i64 0, .int .u64 0, .int .i64 0, .int .u64 0, .int .i64 0]) (t := 88) hc9); have pV := KV.out.2; have v0 := pV.c 0 _ rfl; have vf0 := pV.f 0 _ rfl; have v1 := pV.c 1 _ rfl; have vf1 := pV.f 1 _ rfl; have v2 := pV.c 2 _ rfl; have vf2 := pV.f 2 _ rfl; have v3 := pV.c 3 _ rfl; have vf3 := pV.f 3 _ rfl; have v4 := pV.c 4 _ rfl; have vf4 := pV.f 4 _ rfl; have v5 := pV.c 5 _ rfl; have vf5 := pV.f 5 _ rfl; have v6 := pV.c 6 _ rfl; have vf6 := pV.f 6 _ rfl; have v7 := pV.c 7 _ rfl; have vf7 := pV.f 7 _ rfl; have v8 := pV.c 8 _ rfl; have vf8 := pV.f 8 _ rfl; have v9 := pV.lt; clear pV) | (with_reducible have KV := Lib.hid (kv_new (vs := #[.int .i64 0, .int .u64 0, .int .i64 0, .int .u64 0, .int .i64 0, .int .u64 0, .int .i64 0, .int .u64 0, .int .i64 0]) (t := 88) HX.out hc9); have pV := KV.out.2; have v0 := pV.c 0 _ rfl; have vf0 := pV.f 0 _ rfl; have v1 := pV.c 1 _ rfl; have vf1 := pV.f 1 _ rfl; have v2 := pV.c 2 _ rfl; have vf2 := pV.f 2 _ rfl; have v3 := pV.c 3 _ rfl; have vf3 := pV.f 3 _ rfl; have v4 := pV.c 4 _ rfl; have vf4 := pV.f 4 _ rfl; have v5 := pV.c 5 _ rfl; have vf5 := pV.f 5 _ rfl; have v6 := pV.c 6 _ rfl; have vf6 := pV.f 6 _ rfl; have v7 := pV.c 7 _ rfl; have vf7 := pV.f 7 _ rfl; have v8 := pV.c 8 _ rfl; have vf8 := pV.f 8 _ rfl; have v9 := pV.lt; clear pV) | (with_reducible have KV := Lib.hid (kv_old KV.out hc9); have pV := KV.out.2; have v0 := pV.c 0 _ rfl; have vf0 := pV.f 0 _ rfl; have v1 := pV.c 1 _ rfl; have vf1 := pV.f 1 _ rfl; have v2 := pV.c 2 _ rfl; have vf2 := pV.f 2 _ rfl; have v3 := pV.c 3 _ rfl; have vf3 := pV.f 3 _ rfl; have v4 := pV.c 4 _ rfl; have vf4 := pV.f 4 _ rfl; have v5 := pV.c 5 _ rfl; have vf5 := pV.f 5 _ rfl; have v6 := pV.c 6 _ rfl; have vf6 := pV.f 6 _ rfl; have v7 := pV.c 7 _ rfl; have vf7 := pV.f 7 _ rfl; have v8 := pV.c 8 _ rfl; have vf8 := pV.f 8 _ rfl; have v9 := pV.lt; clear pV) | skip); have HX := Lib.hid hb9; clear hb9 hc9))
    all_goals
      first
        | (have FN := kv_set9 (.int .i64 (hiW X)) (.int .u64 (loW X)) (.int .i64 (hiW Y)) (.int .u64 (loW Y)) (.int .i64 0) (.int .u64 0) (.int .i64 0) (.int .u64 0) (.int .i64 T) KV.out HX.out; have FB := Lib.hid FN.1; have KS := Lib.hid FN.2.1; have n0S := FN.2.2; clear FN; generalize World.setCell (World.setCell (World.setCell (World.setCell (World.setCell (World.setCell (World.setCell (World.setCell (World.setCell _ _ (.int .i64 (hiW X))) _ (.int .u64 (loW X))) _ (.int .i64 (hiW Y))) _ (.int .u64 (loW Y))) _ (.int .i64 0)) _ (.int .u64 0)) _ (.int .i64 0)) _ (.int .u64 0)) _ (.int .i64 T) = w3 at *)
        | (have FN := kv_putn (vs := #[.int .i64 (hiW X), .int .u64 (loW X), .int .i64 (hiW Y), .int .u64 (loW Y), .int .i64 0, .int .u64 0, .int .i64 0, .int .u64 0, .int .i64 T]) (t := 88) HX.out; have FB := Lib.hid FN.1; have KS := Lib.hid FN.2.1; have n0S := FN.2.2; clear FN; generalize (World.alloc _ (.cells #[.int .i64 (hiW X), .int .u64 (loW X), .int .i64 (hiW Y), .int .u64 (loW Y), .int .i64 0, .int .u64 0, .int .i64 0, .int .u64 0, .int .i64 T] 88)) = w3 at *)
      have nS := Nat.le_trans HB.out.size n0S
      have neS_Z := Nat.ne_of_gt (Nat.lt_of_lt_of_le KZ.out.lt n0S)
      have neS_N := Nat.ne_of_gt (Nat.lt_of_lt_of_le KN.out.lt n0S)
      replace HB := Lib.hid (HB.out.trans (FB.out.mono HB.out.size))
      replace KZ := Lib.hid (KZ.out.below FB.out)
      replace KN := Lib.hid (KN.out.below FB.out)
      obtain ⟨bS, hbS⟩ := ex_blk KS
      rw [← hbS] at KS nS neS_Z neS_N ⊢
      refine OnlyN.mk ⟨bS, rfl, ?_⟩
      with_reducible exact ⟨nS, neS_Z, neS_N, HB, KS, KZ, KN⟩
  clear BD BD2 DLX DLY yN_0 yN_1 yN_2 yN_3 yN_4 yN_z
  rintro bS w3 ⟨nS, neS_Z, neS_N, HB2, KS, KZ2, KN2⟩
  replace HB := HB2
  clear HB2
  replace KZ := KZ2
  clear KZ2
  replace KN := KN2
  clear KN2
  go_wp2
  go_loopw [47] (SvR l p cap w bN bS) (fun i _ => l.length - (intOf i).toNat)
  case atStart => exact ⟨0, rfl, Nat.zero_le _, HB, by rw [HA.out, HBB.out, HC.out, HD.out, HE.out]; exact KN, by rw [List.take_zero, HX.out, HY.out, HT.out]; exact KS, KZ⟩
  case round =>
    clear HB KN KS KZ
    obtain ⟨k, rfl, hk, HB, KN, KS, KZ⟩ := hrel
    rw [HA.out, HBB.out, HC.out, HD.out, HE.out] at KN
    rw [HX.out, HY.out, HT.out] at KS
    by_cases q : k < l.length
    · have q' : decide (k < l.length) = true := by simpa using q
      obtain ⟨b, o, rfl, hcap, hmax, MM⟩ := lst_at (H0.out.below HB.out) q
      have c0 := MM.c0 k q
      have c1 := MM.c1 k q
      have c2 := MM.c2 k q
      have c3 := MM.c3 k q
      have c4 := MM.c4 k q
      have c5 := MM.c5 k q
      have clt := MM.lt
      obtain ⟨S1, S2⟩ := sv_step OL.out q
      clear MM
      rw [HC.out, HBB.out] at S1
      rw [HA.out, HBB.out] at S2
      generalize nth l k = m at *
      generalize sumL (nxF l) (l.take k) = U at *
      generalize sumL (nyF l) (l.take k) = V at *
      obtain ⟨U1, EU⟩ : ∃ x, sumL (nxF l) (l.take (k + 1)) = x := ⟨_, rfl⟩
      obtain ⟨V1, EV⟩ : ∃ x, sumL (nyF l) (l.take (k + 1)) = x := ⟨_, rfl⟩
      rw [EU] at S1
      rw [EV] at S2
      have HU := Lib.hid EU
      have HV := Lib.hid EV
      obtain ⟨s1, s2, s3, s4, ab1, mu1, pl1⟩ := S1
      obtain ⟨t1, t2, t3, t4, ab2, mu2, pl2⟩ := S2
      clear EU EV
      unfold wv at mu1 pl1 mu2 pl2
      have AB1 := Lib.hid ab1
      have MU1 := Lib.hid mu1
      have PL1 := Lib.hid pl1
      have AB2 := Lib.hid ab2
      have MU2 := Lib.hid mu2
      have PL2 := Lib.hid pl2
      clear ab1 mu1 pl1 ab2 mu2 pl2
      generalize m.w * absZ (C * m.a - B * m.b) * m.d = p1 at *
      generalize m.w * absZ (A * m.b - B * m.a) * m.d = p2 at *
      go_wp2_with fail
      obtain ⟨KC, hb51⟩ := alB wr #[.int .i64 m.s, .int .i64 m.a, .int .i64 m.b, .int .i64 m.z, .int .i64 m.d, .int .i64 m.w] 59
      have hnC := HB.out.size
      have nzC_Z := KZ.out.lt
      have nzC_N := KN.out.lt
      have nzC_S := KS.out.lt
      replace HB := hT HB hb51
      replace KZ := hK KZ hb51
      replace KN := hK KN hb51
      replace KS := hK KS hb51
      clear hb51
      generalize wr.alloc (.cells #[.int .i64 m.s, .int .i64 m.a, .int .i64 m.b, .int .i64 m.z, .int .i64 m.d, .int .i64 m.w] 59) = w51 at *
      generalize wr.heap.size = bC at *
      have neC_Z : bC ≠ w.heap.size := by omega
      have neC_N : bC ≠ bN := by omega
      have neC_S : bC ≠ bS := by omega
      clear nzC_Z nzC_N nzC_S
      clear c0 c1 c2 c3 c4 c5 clt
      have gC_5 := fun d os => cell_regrown (KC.out.c 5 _ rfl) d os
      have gC_1 := fun d os => cell_regrown (KC.out.c 1 _ rfl) d os
      have gC_2 := fun d os => cell_regrown (KC.out.c 2 _ rfl) d os
      have gN_2 := fun d os => cell_regrown (KN.out.c 2 _ rfl) d os
      have gN_1 := fun d os => cell_regrown (KN.out.c 1 _ rfl) d os
      have rv0 := Lib.hid (fun d os => Calls.regrown_of (AB1.out (Go.Sort.grow (redrawn w51 d) os)))
      refine wp_region_quiet_below (by kernel_rfl) (by kernel_rfl) ?_
      repeat (quiet_step (first | with_reducible exact rv0.out _ _))
      refine wpQuiet_nil ?_
      intro w52 hw52
      have hb52 : Below w51.heap.size w51 w52 := by
        obtain ⟨⟨dq, osq⟩, hw2⟩ := hw52
        rw [hw2]; exact below_regrown _ dq osq
      clear gC_5 gC_1 gC_2 gN_2 gN_1 rv0 hw52
      replace HB := hT HB hb52
      replace KZ := hK KZ hb52
      replace KN := hK KN hb52
      replace KS := hK KS hb52
      replace KC := hK KC hb52
      clear hb52
      clear s1 s2 s3 AB1
      generalize absZ (C * m.a - B * m.b) = x1 at *
      go_wp2_with fail
      have gC_5 := fun d os => cell_regrown (KC.out.c 5 _ rfl) d os
      have gC_1 := fun d os => cell_regrown (KC.out.c 1 _ rfl) d os
      have gC_2 := fun d os => cell_regrown (KC.out.c 2 _ rfl) d os
      have gN_0 := fun d os => cell_regrown (KN.out.c 0 _ rfl) d os
      have gN_1 := fun d os => cell_regrown (KN.out.c 1 _ rfl) d os
      have rv0 := Lib.hid (fun d os => Calls.regrown_of (AB2.out (Go.Sort.grow (redrawn w52 d) os)))
      refine wp_region_quiet_below (by kernel_rfl) (by kernel_rfl) ?_
      repeat (quiet_step (first | with_reducible exact rv0.out _ _))
      refine wpQuiet_nil ?_
      intro w53 hw53
      have hb53 : Below w52.heap.size w52 w53 := by
        obtain ⟨⟨dq, osq⟩, hw2⟩ := hw53
        rw [hw2]; exact below_regrown _ dq osq
      clear gC_5 gC_1 gC_2 gN_0 gN_1 rv0 hw53
      replace HB := hT HB hb53
      replace KZ := hK KZ hb53
      replace KN := hK KN hb53
      replace KS := hK KS hb53
      replace KC := hK KC hb53
      clear hb53
      clear t1 t2 t3 AB2
      generalize absZ (A * m.b - B * m.a) = x2 at *
      generalize m.w * x1 = g1 at *
      generalize m.w * x2 = g2 at *
      go_wp2_with fail
      apply wp_join0 (R := fun w' => Hid (Below w.heap.size w w') ∧ Hid (Blk [.int .i64 0, .int .u64 0, .int .i64 0, .int .u64 0, .int .i64 0, .int .u64 0, .int .i64 0, .int .u64 0, .int .i64 0] w.heap.size w') ∧ Hid (Blk [.int .i64 A, .int .i64 B, .int .i64 C, .int .i64 D, .int .i64 E] bN w') ∧ Hid (Blk [.int .i64 (hiW X), .int .u64 (loW X), .int .i64 (hiW Y), .int .u64 (loW Y), .int .i64 (hiW U1), .int .u64 (loW U1), .int .i64 (hiW V), .int .u64 (loW V), .int .i64 T] bS w') ∧ Hid (Blk [.int .i64 m.s, .int .i64 m.a, .int .i64 m.b, .int .i64 m.z, .int .i64 m.d, .int .i64 m.w] bC w'))
      · have HB0 := Lib.hid (below_drew1 HB.out)
        have KZ0 := Lib.hid (blk_drew1 KZ.out)
        have KN0 := Lib.hid (blk_drew1 KN.out)
        have KS0 := Lib.hid (blk_drew1 KS.out)
        have KC0 := Lib.hid (blk_drew1 KC.out)
        have p0S := KS0.out
        have q0S_4 := p0S.c 4 _ rfl
        have q0S_5 := p0S.c 5 _ rfl
        have r0S_4 := p0S.f 4 _ rfl
        have r0S_5 := p0S.f 5 _ rfl
        have z0S := p0S.lt
        clear p0S
        have p0C := KC0.out
        have q0C_4 := p0C.c 4 _ rfl
        have z0C := p0C.lt
        clear p0C
        go_region_with (first
          | ((try go_simp); go_at_call 60; (refine (MU1.out _).mono ?_); rintro e1 v1 ⟨rfl, hb1⟩; have HB1 := Lib.hid (HB0.out.trans (hb1.mono HB0.out.size)); have KZ1 := Lib.hid (KZ0.out.below hb1); have KN1 := Lib.hid (KN0.out.below hb1); have KS1 := Lib.hid (KS0.out.below hb1); have KC1 := Lib.hid (KC0.out.below hb1); have p1S := KS1.out; have q1S_4 := p1S.c 4 _ rfl; have q1S_5 := p1S.c 5 _ rfl; have r1S_4 := p1S.f 4 _ rfl; have r1S_5 := p1S.f 5 _ rfl; have z1S := p1S.lt; clear p1S; have p1C := KC1.out; have q1C_4 := p1C.c 4 _ rfl; have z1C := p1C.lt; clear p1C; clear hb1)
          | ((try go_simp); go_at_call 59; (refine (PL1.out _).mono ?_); rintro e2 v2 ⟨rfl, hb2⟩; have HB2 := Lib.hid (HB1.out.trans (hb2.mono HB1.out.size)); have KZ2 := Lib.hid (KZ1.out.below hb2); have KN2 := Lib.hid (KN1.out.below hb2); have KS2 := Lib.hid (KS1.out.below hb2); have KC2 := Lib.hid (KC1.out.below hb2); have p2S := KS2.out; have q2S_4 := p2S.c 4 _ rfl; have q2S_5 := p2S.c 5 _ rfl; have r2S_4 := p2S.f 4 _ rfl; have r2S_5 := p2S.f 5 _ rfl; have z2S := p2S.lt; clear p2S; have p2C := KC2.out; have q2C_4 := p2C.c 4 _ rfl; have z2C := p2C.lt; clear p2C; clear hb2))
        all_goals
          refine OnlyN.mk ⟨rfl, ?_⟩
          exact ⟨Lib.hid ((HB2.out.setCell (p := ⟨bS, 4, none⟩) (show w.heap.size ≤ bS by omega) (.int .i64 (hiW U1))).setCell (p := ⟨bS, 5, none⟩) (show w.heap.size ≤ bS by omega) (.int .u64 (loW U1))), Lib.hid (blk_other (b := w.heap.size) (n := bS) (j := 5) (blk_other (b := w.heap.size) (n := bS) (j := 4) KZ2.out (by omega) (.int .i64 (hiW U1))) (by omega) (.int .u64 (loW U1))), Lib.hid (blk_other (b := bN) (n := bS) (j := 5) (blk_other (b := bN) (n := bS) (j := 4) KN2.out (by omega) (.int .i64 (hiW U1))) (by omega) (.int .u64 (loW U1))), Lib.hid (blk_set (blk_set KS2.out (j := 4) (by simp) (.int .i64 (hiW U1))) (j := 5) (by simp) (.int .u64 (loW U1))), Lib.hid (blk_other (b := bC) (n := bS) (j := 5) (blk_other (b := bC) (n := bS) (j := 4) KC2.out (by omega) (.int .i64 (hiW U1))) (by omega) (.int .u64 (loW U1)))⟩
      rintro w54 ⟨HB2, KZ2, KN2, KS2, KC2⟩
      replace HB := HB2
      clear HB2
      replace KZ := KZ2
      clear KZ2
      replace KN := KN2
      clear KN2
      replace KS := KS2
      clear KS2
      replace KC := KC2
      clear KC2
      go_wp2_with fail
      apply wp_join0 (R := fun w' => Hid (Below w.heap.size w w') ∧ Hid (Blk [.int .i64 0, .int .u64 0, .int .i64 0, .int .u64 0, .int .i64 0, .int .u64 0, .int .i64 0, .int .u64 0, .int .i64 0] w.heap.size w') ∧ Hid (Blk [.int .i64 A, .int .i64 B, .int .i64 C, .int .i64 D, .int .i64 E] bN w') ∧ Hid (Blk [.int .i64 (hiW X), .int .u64 (loW X), .int .i64 (hiW Y), .int .u64 (loW Y), .int .i64 (hiW U1), .int .u64 (loW U1), .int .i64 (hiW V1), .int .u64 (loW V1), .int .i64 T] bS w') ∧ Hid (Blk [.int .i64 m.s, .int .i64 m.a, .int .i64 m.b, .int .i64 m.z, .int .i64 m.d, .int .i64 m.w] bC w'))
      · have HB0 := Lib.hid (below_drew1 HB.out)
        have KZ0 := Lib.hid (blk_drew1 KZ.out)
        have KN0 := Lib.hid (blk_drew1 KN.out)
        have KS0 := Lib.hid (blk_drew1 KS.out)
        have KC0 := Lib.hid (blk_drew1 KC.out)
        have p0S := KS0.out
        have q0S_6 := p0S.c 6 _ rfl
        have q0S_7 := p0S.c 7 _ rfl
        have r0S_6 := p0S.f 6 _ rfl
        have r0S_7 := p0S.f 7 _ rfl
        have z0S := p0S.lt
        clear p0S
        have p0C := KC0.out
        have q0C_4 := p0C.c 4 _ rfl
        have z0C := p0C.lt
        clear p0C
        go_region_with (first
          | ((try go_simp); go_at_call 60; (refine (MU2.out _).mono ?_); rintro e1 v1 ⟨rfl, hb1⟩; have HB1 := Lib.hid (HB0.out.trans (hb1.mono HB0.out.size)); have KZ1 := Lib.hid (KZ0.out.below hb1); have KN1 := Lib.hid (KN0.out.below hb1); have KS1 := Lib.hid (KS0.out.below hb1); have KC1 := Lib.hid (KC0.out.below hb1); have p1S := KS1.out; have q1S_6 := p1S.c 6 _ rfl; have q1S_7 := p1S.c 7 _ rfl; have r1S_6 := p1S.f 6 _ rfl; have r1S_7 := p1S.f 7 _ rfl; have z1S := p1S.lt; clear p1S; have p1C := KC1.out; have q1C_4 := p1C.c 4 _ rfl; have z1C := p1C.lt; clear p1C; clear hb1)
          | ((try go_simp); go_at_call 59; (refine (PL2.out _).mono ?_); rintro e2 v2 ⟨rfl, hb2⟩; have HB2 := Lib.hid (HB1.out.trans (hb2.mono HB1.out.size)); have KZ2 := Lib.hid (KZ1.out.below hb2); have KN2 := Lib.hid (KN1.out.below hb2); have KS2 := Lib.hid (KS1.out.below hb2); have KC2 := Lib.hid (KC1.out.below hb2); have p2S := KS2.out; have q2S_6 := p2S.c 6 _ rfl; have q2S_7 := p2S.c 7 _ rfl; have r2S_6 := p2S.f 6 _ rfl; have r2S_7 := p2S.f 7 _ rfl; have z2S := p2S.lt; clear p2S; have p2C := KC2.out; have q2C_4 := p2C.c 4 _ rfl; have z2C := p2C.lt; clear p2C; clear hb2))
        all_goals
          refine OnlyN.mk ⟨rfl, ?_⟩
          exact ⟨Lib.hid ((HB2.out.setCell (p := ⟨bS, 6, none⟩) (show w.heap.size ≤ bS by omega) (.int .i64 (hiW V1))).setCell (p := ⟨bS, 7, none⟩) (show w.heap.size ≤ bS by omega) (.int .u64 (loW V1))), Lib.hid (blk_other (b := w.heap.size) (n := bS) (j := 7) (blk_other (b := w.heap.size) (n := bS) (j := 6) KZ2.out (by omega) (.int .i64 (hiW V1))) (by omega) (.int .u64 (loW V1))), Lib.hid (blk_other (b := bN) (n := bS) (j := 7) (blk_other (b := bN) (n := bS) (j := 6) KN2.out (by omega) (.int .i64 (hiW V1))) (by omega) (.int .u64 (loW V1))), Lib.hid (blk_set (blk_set KS2.out (j := 6) (by simp) (.int .i64 (hiW V1))) (j := 7) (by simp) (.int .u64 (loW V1))), Lib.hid (blk_other (b := bC) (n := bS) (j := 7) (blk_other (b := bC) (n := bS) (j := 6) KC2.out (by omega) (.int .i64 (hiW V1))) (by omega) (.int .u64 (loW V1)))⟩
      rintro w55 ⟨HB2, KZ2, KN2, KS2, KC2⟩
      replace HB := HB2
      clear HB2
      replace KZ := KZ2
      clear KZ2
      replace KN := KN2
      clear KN2
      replace KS := KS2
      clear KS2
      replace KC := KC2
      clear KC2
      go_wp2
      exact ⟨⟨k + 1, by go_num, by omega, HB, by rw [HA.out, HBB.out, HC.out, HD.out, HE.out]; exact KN, by rw [HX.out, HY.out, HT.out, HU.out, HV.out]; exact KS, KZ⟩, by simp [intOf]; omega⟩
    · obtain rfl : k = l.length := by omega
      rw [List.take_length, ← noiX_is, ← noiY_is] at KS
      obtain ⟨U, EU⟩ : ∃ x, noiX l = x := ⟨_, rfl⟩
      obtain ⟨V, EV⟩ : ∃ x, noiY l = x := ⟨_, rfl⟩
      rw [EU, EV] at KS
      have HU := Lib.hid EU
      have HV := Lib.hid EV
      clear EU EV
      obtain ⟨yZ_0, yZ_1, yZ_2, yZ_3, yZ_4, yZ_5, yZ_6, yZ_7, yZ_8, yZ_z, yZ_f0, yZ_f1, yZ_f2, yZ_f3, yZ_f4, yZ_f5, yZ_f6, yZ_f7, yZ_f8⟩ := blf9 KZ
      obtain ⟨yS_0, yS_1, yS_2, yS_3, yS_4, yS_5, yS_6, yS_7, yS_8, yS_z⟩ := blk9 KS
      go_wp2
      have hs := st9 wr w.heap.size 0 (.int .i64 (hiW X)) 1 (.int .u64 (loW X)) 2 (.int .i64 (hiW Y)) 3 (.int .u64 (loW Y)) 4 (.int .i64 (hiW U)) 5 (.int .u64 (loW U)) 6 (.int .i64 (hiW V)) 7 (.int .u64 (loW V)) 8 (.int .i64 T)
      replace KZ := Lib.hid (blk_set (blk_set (blk_set (blk_set (blk_set (blk_set (blk_set (blk_set (blk_set KZ.out (j := 0) (by simp) (.int .i64 (hiW X))) (j := 1) (by simp) (.int .u64 (loW X))) (j := 2) (by simp) (.int .i64 (hiW Y))) (j := 3) (by simp) (.int .u64 (loW Y))) (j := 4) (by simp) (.int .i64 (hiW U))) (j := 5) (by simp) (.int .u64 (loW U))) (j := 6) (by simp) (.int .i64 (hiW V))) (j := 7) (by simp) (.int .u64 (loW V))) (j := 8) (by simp) (.int .i64 T))
      replace KN := oB hs KN (by omega)
      replace KS := oB hs KS (by omega)
      replace HB := oH hs HB (by omega)
      clear hs
      clear yZ_0 yZ_1 yZ_2 yZ_3 yZ_4 yZ_5 yZ_6 yZ_7 yZ_8 yZ_z yZ_f0 yZ_f1 yZ_f2 yZ_f3 yZ_f4 yZ_f5 yZ_f6 yZ_f7 yZ_f8 yS_0 yS_1 yS_2 yS_3 yS_4 yS_5 yS_6 yS_7 yS_8 yS_z
      generalize ((((((((wr.setCell ⟨w.heap.size, 0, none⟩ (.int .i64 (hiW X))).setCell ⟨w.heap.size, 1, none⟩ (.int .u64 (loW X))).setCell ⟨w.heap.size, 2, none⟩ (.int .i64 (hiW Y))).setCell ⟨w.heap.size, 3, none⟩ (.int .u64 (loW Y))).setCell ⟨w.heap.size, 4, none⟩ (.int .i64 (hiW U))).setCell ⟨w.heap.size, 5, none⟩ (.int .u64 (loW U))).setCell ⟨w.heap.size, 6, none⟩ (.int .i64 (hiW V))).setCell ⟨w.heap.size, 7, none⟩ (.int .u64 (loW V))).setCell ⟨w.heap.size, 8, none⟩ (.int .i64 T) = w51 at *
      simp only [List.set] at KZ
      obtain ⟨yZ_0, yZ_1, yZ_2, yZ_3, yZ_4, yZ_5, yZ_6, yZ_7, yZ_8, yZ_z⟩ := blk9 KZ
      refine bodyPost_ret (v := .agg #[.int .i64 (hiW X), .int .u64 (loW X), .int .i64 (hiW Y), .int .u64 (loW Y), .int .i64 (hiW U), .int .u64 (loW U), .int .i64 (hiW V), .int .u64 (loW V), .int .i64 T]) (by simp [results, Tryz.results30, go_sem, yZ_0, yZ_1, yZ_2, yZ_3, yZ_4, yZ_5, yZ_6, yZ_7, yZ_8]) rfl ⟨by rw [HX.out, HY.out, HT.out, HU.out, HV.out], HB.out⟩
end Go.Proofs.YtidelghgjibndaaGreat
namespace Go.Proofs.YtidelghgjibndaaGreat
set_option linter.unusedVariables false
open Go.RowKit
theorem far7 {m b c : Nat} {W : World} (h : m ≤ c) (hb : b < m) {v0 v1 v2 v3 v4 v5 v6 : Value} (i : Nat) : (((((((W.setCell ⟨c, 0, none⟩ v0).setCell ⟨c, 1, none⟩ v1).setCell ⟨c, 2, none⟩ v2).setCell ⟨c, 3, none⟩ v3).setCell ⟨c, 4, none⟩ v4).setCell ⟨c, 5, none⟩ v5).setCell ⟨c, 6, none⟩ v6).cell? ⟨b, i, none⟩ = W.cell? ⟨b, i, none⟩ :=
  have hne : c ≠ b := by omega
  (((((((World.cell?_setCell_far _ _ _ _ hne).trans (World.cell?_setCell_far _ _ _ _ hne)).trans (World.cell?_setCell_far _ _ _ _ hne)).trans (World.cell?_setCell_far _ _ _ _ hne)).trans (World.cell?_setCell_far _ _ _ _ hne)).trans (World.cell?_setCell_far _ _ _ _ hne)).trans (World.cell?_setCell_far _ _ _ _ hne))
theorem chk_sol {l : List Ms} (h : chkL l ≠ 0) : solE l = chkL l := by unfold solE; rw [if_neg h]
set_option maxHeartbeats 40000000 in
set_option maxRecDepth 100000 in
theorem sol_bad0 (l : List Ms) (v : Value) (w : World) (h : LstAt l v w) (hc : chkL l = 0) (hs : solE l ≠ 0) :
    Calls Tryz.prog 28 #[v] w fun e w' => e = .returned (.tuple #[.agg #[.int .i64 0, .int .u64 0, .int .i64 0, .int .u64 0, .int .i64 0, .int .i64 0, .int .i64 0], .int .i64 (solE l)]) ∧ Below w.heap.size w w' := by
  obtain ⟨p, cap, rfl⟩ := lst_form h
  have OL := Lib.hid (okL_of hc)
  obtain ⟨⟨a0, a1⟩, ⟨b0, b1⟩, ⟨c0, c1⟩, ⟨d0, d1⟩, ⟨e0, e1⟩⟩ := nrm_bd OL.out
  obtain ⟨⟨dt0, dt1⟩, ⟨sx0, sx1⟩, ⟨sy0, sy1⟩⟩ := sol_bd (nrm_bd OL.out)
  have NO := Lib.hid fun w h => normal_any l (.slice p l.length cap) w h hc
  have P1 := mulb (X := 16777216) (Y := 16777216) (by omega) a0 a1 c0 c1
  have P2 := mulb (X := 16777216) (Y := 16777216) (by omega) b0 b1 b0 b1
  have LX := Lib.hid fun w => lsq_less (nYY l) (nXZ l) (nXY l) (nYZ l) w ⟨by omega, by omega⟩ ⟨by omega, by omega⟩ ⟨by omega, by omega⟩ ⟨by omega, by omega⟩ (show FitW (solX l) from ⟨by omega, by omega⟩)
  have LY := Lib.hid fun w => lsq_less (nXX l) (nYZ l) (nXY l) (nXZ l) w ⟨by omega, by omega⟩ ⟨by omega, by omega⟩ ⟨by omega, by omega⟩ ⟨by omega, by omega⟩ (show FitW (solY l) from ⟨by omega, by omega⟩)
  have q1 : IntKind.i64.wrap (nXX l * nYY l) = nXX l * nYY l := IntWalk.i64_in _ (by omega)
  have q2 : IntKind.i64.wrap (nXY l * nXY l) = nXY l * nXY l := IntWalk.i64_in _ (by omega)
  have q3 : IntKind.i64.wrap (nXX l * nYY l - nXY l * nXY l) = detN l := IntWalk.i64_in _ (by unfold detN at dt0 dt1; omega)
  have HX : Hid (solX l = nYY l * nXZ l - nXY l * nYZ l) := Lib.hid rfl
  have HY : Hid (solY l = nXX l * nYZ l - nXY l * nXZ l) := Lib.hid rfl
  rw [← HX.out] at LX
  rw [← HY.out] at LY
  have NX := Lib.hid fun (hd : 0 < detN l) w => nearest_any (solX l) (detN l) w (by omega) (by omega) hd (by omega)
  have NY := Lib.hid fun (hd : 0 < detN l) w => nearest_any (solY l) (detN l) w (by omega) (by omega) hd (by omega)
  have VP := Lib.hid fun w => vldP_any (cenX l) (cenY l) w
  have E0 : solE l = if detN l = 0 then 14 else if (pOk (cenX l) && pOk (cenY l)) = true then 0 else 2 := by unfold solE; rw [if_pos hc]
  have HDP : detN l ≠ 0 → 0 < detN l := fun q => by have := det_nonneg l (chk_w hc); omega
  rw [show nearI2 (solX l) (detN l) = cenX l from rfl] at NX
  rw [show nearI2 (solY l) (detN l) = cenY l from rfl] at NY
  clear hc a0 a1 b0 b1 c0 c1 d0 d1 e0 e1 dt0 dt1 sx0 sx1 sy0 sy1 P1 P2 HX HY
  obtain ⟨A, EA⟩ : ∃ x, nXX l = x := ⟨_, rfl⟩
  obtain ⟨B, EB⟩ : ∃ x, nXY l = x := ⟨_, rfl⟩
  obtain ⟨C, EC⟩ : ∃ x, nYY l = x := ⟨_, rfl⟩
  obtain ⟨D, ED⟩ : ∃ x, nXZ l = x := ⟨_, rfl⟩
  obtain ⟨E, EE⟩ : ∃ x, nYZ l = x := ⟨_, rfl⟩
  obtain ⟨X, EX⟩ : ∃ x, solX l = x := ⟨_, rfl⟩
  obtain ⟨Y, EY⟩ : ∃ x, solY l = x := ⟨_, rfl⟩
  obtain ⟨T, ET⟩ : ∃ x, detN l = x := ⟨_, rfl⟩
  rw [EA, EB, EC, ED, EE] at NO
  rw [EC, ED, EB, EE, EX] at LX
  rw [EA, EE, EB, ED, EY] at LY
  rw [EA, EC] at q1
  rw [EB] at q2
  rw [EA, EB, EC, ET] at q3
  rw [ET, EX] at NX
  rw [ET, EY] at NY
  rw [ET] at E0 HDP
  have HX := Lib.hid EX
  have HY := Lib.hid EY
  have HT := Lib.hid ET
  clear EA EB EC ED EE EX EY ET
  obtain ⟨cx, hcx⟩ : ∃ x, cenX l = x := ⟨_, rfl⟩
  obtain ⟨cy, hcy⟩ : ∃ x, cenY l = x := ⟨_, rfl⟩
  rw [hcx] at NX
  rw [hcy] at NY
  rw [hcx, hcy] at VP E0
  have HCX := Lib.hid hcx
  have HCY := Lib.hid hcy
  clear hcx hcy
  have PV : (pOk cx && pOk cy) = vldP cx cy := by unfold pOk vldP; rw [Bool.eq_iff_iff]; simp only [Bool.and_eq_true, decide_eq_true_eq]; omega
  have PI : vldP cx cy = true → I64 cx ∧ I64 cy := fun h => by have := vldP_iff.1 h; exact ⟨⟨by omega, by omega⟩, by omega, by omega⟩
  rw [PV] at E0
  clear PV
  unfold wv at LX LY NX NY
  obtain ⟨ee, hee⟩ : ∃ x, solE l = x := ⟨_, rfl⟩
  have HS := Lib.hid hee
  rw [hee] at E0 hs
  clear hee HCX HCY HX HY HT
  rw [HS.out]
  clear HS
  have H0 := Lib.hid h
  obtain ⟨KZ, HB⟩ := ent1 w #[.int .i64 0, .int .u64 0, .int .i64 0, .int .u64 0, .int .i64 0, .int .i64 0, .int .i64 0] 81
  go_enter Tryz.func28, Tryz.ntmps28
  clear h
  go_wp2_with fail
  generalize w.alloc (.cells #[.int .i64 0, .int .u64 0, .int .i64 0, .int .u64 0, .int .i64 0, .int .i64 0, .int .i64 0] 81) = w0 at *
  refine (NO.out _ (H0.out.below HB.out)).mono ?_
  rintro e1 w1 ⟨rfl, hb1⟩
  replace HB := hT HB hb1
  replace KZ := hK KZ hb1
  clear hb1
  go_wp2_with fail
  obtain ⟨KN, hb2⟩ := alB w1 #[.int .i64 A, .int .i64 B, .int .i64 C, .int .i64 D, .int .i64 E] 112
  have hnN := HB.out.size
  have nzN_Z := KZ.out.lt
  replace HB := hT HB hb2
  replace KZ := hK KZ hb2
  clear hb2
  generalize w1.alloc (.cells #[.int .i64 A, .int .i64 B, .int .i64 C, .int .i64 D, .int .i64 E] 112) = w2 at *
  generalize w1.heap.size = bN at *
  have neN_Z : bN ≠ w.heap.size := by omega
  clear nzN_Z
  have BD := Lib.hid (show Below w2.heap.size w2 w2.drew from ⟨rfl, rfl, rfl, Nat.le_refl _, fun _ _ => rfl⟩)
  have BD2 := Lib.hid (below_drew_alloc w2 (.cells #[.int .i64 0, .int .u64 0, .int .i64 0, .int .u64 0, .int .i64 0, .int .i64 0, .int .i64 0] 81))
  have DLX := Lib.hid fun W (h : Below w2.heap.size w2 W) => (LX.out W).mono fun e w' ⟨h1, h2⟩ => show _ ∧ Below w2.heap.size w2 w' ∧ Below W.heap.size W w' from ⟨h1, h.trans (h2.mono h.size), h2⟩
  have DLY := Lib.hid fun W (h : Below w2.heap.size w2 W) => (LY.out W).mono fun e w' ⟨h1, h2⟩ => show _ ∧ Below w2.heap.size w2 w' ∧ Below W.heap.size W w' from ⟨h1, h.trans (h2.mono h.size), h2⟩
  obtain ⟨yN_0, yN_1, yN_2, yN_3, yN_4, yN_z⟩ := blk5 KN
  apply wp_join (R := fun b w' => w.heap.size ≤ b ∧ b ≠ w.heap.size ∧ b ≠ bN ∧ Hid (Below w.heap.size w w') ∧ Hid (Blk [.int .i64 (hiW X), .int .u64 (loW X), .int .i64 (hiW Y), .int .u64 (loW Y), .int .i64 T, .int .i64 0, .int .i64 0] b w') ∧ Hid (Blk [.int .i64 0, .int .u64 0, .int .i64 0, .int .u64 0, .int .i64 0, .int .i64 0, .int .i64 0] w.heap.size w') ∧ Hid (Blk [.int .i64 A, .int .i64 B, .int .i64 C, .int .i64 D, .int .i64 E] bN w'))
  · go_region_held3 (fun w' => w'.cell? ⟨bN, 0, none⟩ = some (.int .i64 A) ∧ w'.cell? ⟨bN, 1, none⟩ = some (.int .i64 B) ∧ w'.cell? ⟨bN, 2, none⟩ = some (.int .i64 C) ∧ w'.cell? ⟨bN, 3, none⟩ = some (.int .i64 D) ∧ w'.cell? ⟨bN, 4, none⟩ = some (.int .i64 E)) (first | (refine ⟨?_, ?_, ?_, ?_, ?_⟩ <;> first | with_reducible assumption | (rw [far7 KV.out.1 yN_z]; with_reducible assumption)) | go_keep)
      (first
        | (go_at_call 54; with_reducible refine Calls.mono (DLX.out _ (by first | with_reducible exact BD.out | with_reducible exact BD2.out | with_reducible exact HX.out | with_reducible exact HX.out.alloc HX.out.size _)) ?_; rintro e9 w9 ⟨rfl, hb9, hc9⟩; have pN := KN.out.below hb9; have qN0 := pN.c 0 _ rfl; have qN1 := pN.c 1 _ rfl; have qN2 := pN.c 2 _ rfl; have qN3 := pN.c 3 _ rfl; have qN4 := pN.c 4 _ rfl; clear pN; (first | (with_reducible have KV := Lib.hid (kv_drew (vs := #[.int .i64 0, .int .u64 0, .int .i64 0, .int .u64 0, .int .i64 0, .int .i64 0, .int .i64 0]) (t := 81) hc9); have pV := KV.out.2; have v0 := pV.c 0 _ rfl; have vf0 := pV.f 0 _ rfl; have v1 := pV.c 1 _ rfl; have vf1 := pV.f 1 _ rfl; have v2 := pV.c 2 _ rfl; have vf2 := pV.f 2 _ rfl; have v3 := pV.c 3 _ rfl; have vf3 := pV.f 3 _ rfl; have v4 := pV.c 4 _ rfl; have vf4 := pV.f 4 _ rfl; have v5 := pV.c 5 _ rfl; have vf5 := pV.f 5 _ rfl; have v6 := pV.c 6 _ rfl; have vf6 := pV.f 6 _ rfl; have v9 := pV.lt; clear pV) | (with_reducible have KV := Lib.hid (kv_new (vs := #[.int .i64 0, .int .u64 0, .int .i64 0, .int .u64 0, .int .i64 0, .int .i64 0, .int .i64 0]) (t := 81) HX.out hc9); have pV := KV.out.2; have v0 := pV.c 0 _ rfl; have vf0 := pV.f 0 _ rfl; have v1 := pV.c 1 _ rfl; have vf1 := pV.f 1 _ rfl; have v2 := pV.c 2 _ rfl; have vf2 := pV.f 2 _ rfl; have v3 := pV.c 3 _ rfl; have vf3 := pV.f 3 _ rfl; have v4 := pV.c 4 _ rfl; have vf4 := pV.f 4 _ rfl; have v5 := pV.c 5 _ rfl; have vf5 := pV.f 5 _ rfl; have v6 := pV.c 6 _ rfl; have vf6 := pV.f 6 _ rfl; have v9 := pV.lt; clear pV) | (with_reducible have KV := Lib.hid (kv_old KV.out hc9); have pV := KV.out.2; have v0 := pV.c 0 _ rfl; have vf0 := pV.f 0 _ rfl; have v1 := pV.c 1 _ rfl; have vf1 := pV.f 1 _ rfl; have v2 := pV.c 2 _ rfl; have vf2 := pV.f 2 _ rfl; have v3 := pV.c 3 _ rfl; have vf3 := pV.f 3 _ rfl; have v4 := pV.c 4 _ rfl; have vf4 := pV.f 4 _ rfl; have v5 := pV.c 5 _ rfl; have vf5 := pV.f 5 _ rfl; have v6 := pV.c 6 _ rfl; have vf6 := pV.f 6 _ rfl; have v9 := pV.lt; clear pV) | skip); have HX := Lib.hid hb9; clear hb9 hc9)
        | (go_at_call 54; with_reducible refine Calls.mono (DLY.out _ (by first | with_reducible exact BD.out | with_reducible exact BD2.out | with_reducible exact HX.out | with_reducible exact HX.out.alloc HX.out.size _)) ?_; rintro e9 w9 ⟨rfl, hb9, hc9⟩; have pN := KN.out.below hb9; have qN0 := pN.c 0 _ rfl; have qN1 := pN.c 1 _ rfl; have qN2 := pN.c 2 _ rfl; have qN3 := pN.c 3 _ rfl; have qN4 := pN.c 4 _ rfl; clear pN; (first | (with_reducible have KV := Lib.hid (kv_drew (vs := #[.int .i64 0, .int .u64 0, .int .i64 0, .int .u64 0, .int .i64 0, .int .i64 0, .int .i64 0]) (t := 81) hc9); have pV := KV.out.2; have v0 := pV.c 0 _ rfl; have vf0 := pV.f 0 _ rfl; have v1 := pV.c 1 _ rfl; have vf1 := pV.f 1 _ rfl; have v2 := pV.c 2 _ rfl; have vf2 := pV.f 2 _ rfl; have v3 := pV.c 3 _ rfl; have vf3 := pV.f 3 _ rfl; have v4 := pV.c 4 _ rfl; have vf4 := pV.f 4 _ rfl; have v5 := pV.c 5 _ rfl; have vf5 := pV.f 5 _ rfl; have v6 := pV.c 6 _ rfl; have vf6 := pV.f 6 _ rfl; have v9 := pV.lt; clear pV) | (with_reducible have KV := Lib.hid (kv_new (vs := #[.int .i64 0, .int .u64 0, .int .i64 0, .int .u64 0, .int .i64 0, .int .i64 0, .int .i64 0]) (t := 81) HX.out hc9); have pV := KV.out.2; have v0 := pV.c 0 _ rfl; have vf0 := pV.f 0 _ rfl; have v1 := pV.c 1 _ rfl; have vf1 := pV.f 1 _ rfl; have v2 := pV.c 2 _ rfl; have vf2 := pV.f 2 _ rfl; have v3 := pV.c 3 _ rfl; have vf3 := pV.f 3 _ rfl; have v4 := pV.c 4 _ rfl; have vf4 := pV.f 4 _ rfl; have v5 := pV.c 5 _ rfl; have vf5 := pV.f 5 _ rfl; have v6 := pV.c 6 _ rfl; have vf6 := pV.f 6 _ rfl; have v9 := pV.lt; clear pV) | (with_reducible have KV := Lib.hid (kv_old KV.out hc9); have pV := KV.out.2; have v0 := pV.c 0 _ rfl; have vf0 := pV.f 0 _ rfl; have v1 := pV.c 1 _ rfl; have vf1 := pV.f 1 _ rfl; have v2 := pV.c 2 _ rfl; have vf2 := pV.f 2 _ rfl; have v3 := pV.c 3 _ rfl; have vf3 := pV.f 3 _ rfl; have v4 := pV.c 4 _ rfl; have vf4 := pV.f 4 _ rfl; have v5 := pV.c 5 _ rfl; have vf5 := pV.f 5 _ rfl; have v6 := pV.c 6 _ rfl; have vf6 := pV.f 6 _ rfl; have v9 := pV.lt; clear pV) | skip); have HX := Lib.hid hb9; clear hb9 hc9))
    all_goals
      first
        | (have FN := kv_set7 (.int .i64 (hiW X)) (.int .u64 (loW X)) (.int .i64 (hiW Y)) (.int .u64 (loW Y)) (.int .i64 T) (.int .i64 0) (.int .i64 0) KV.out HX.out; have FB := Lib.hid FN.1; have KS := Lib.hid FN.2.1; have n0S := FN.2.2; clear FN; generalize World.setCell (World.setCell (World.setCell (World.setCell (World.setCell (World.setCell (World.setCell _ _ (.int .i64 (hiW X))) _ (.int .u64 (loW X))) _ (.int .i64 (hiW Y))) _ (.int .u64 (loW Y))) _ (.int .i64 T)) _ (.int .i64 0)) _ (.int .i64 0) = w3 at *)
        | (have FN := kv_putn (vs := #[.int .i64 (hiW X), .int .u64 (loW X), .int .i64 (hiW Y), .int .u64 (loW Y), .int .i64 T, .int .i64 0, .int .i64 0]) (t := 81) HX.out; have FB := Lib.hid FN.1; have KS := Lib.hid FN.2.1; have n0S := FN.2.2; clear FN; generalize (World.alloc _ (.cells #[.int .i64 (hiW X), .int .u64 (loW X), .int .i64 (hiW Y), .int .u64 (loW Y), .int .i64 T, .int .i64 0, .int .i64 0] 81)) = w3 at *)
      have nS := Nat.le_trans HB.out.size n0S
      have neS_Z := Nat.ne_of_gt (Nat.lt_of_lt_of_le KZ.out.lt n0S)
      have neS_N := Nat.ne_of_gt (Nat.lt_of_lt_of_le KN.out.lt n0S)
      replace HB := Lib.hid (HB.out.trans (FB.out.mono HB.out.size))
      replace KZ := Lib.hid (KZ.out.below FB.out)
      replace KN := Lib.hid (KN.out.below FB.out)
      obtain ⟨bS, hbS⟩ := ex_blk KS
      rw [← hbS] at KS nS neS_Z neS_N ⊢
      refine OnlyN.mk ⟨bS, rfl, ?_⟩
      with_reducible exact ⟨nS, neS_Z, neS_N, HB, KS, KZ, KN⟩
  clear BD BD2 DLX DLY yN_0 yN_1 yN_2 yN_3 yN_4 yN_z
  rintro bS w3 ⟨nS, neS_Z, neS_N, HB2, KS, KZ2, KN2⟩
  replace HB := HB2
  clear HB2
  replace KZ := KZ2
  clear KZ2
  replace KN := KN2
  clear KN2
  clear LX LY NO q1 q2 q3
  by_cases ht : T = 0
  · have g : (T == 0) = true := by simpa using ht
    have HE := Lib.hid (E0.trans (if_pos ht))
    clear E0 HDP NX NY VP PI ht hs
    obtain ⟨yZ_0, yZ_1, yZ_2, yZ_3, yZ_4, yZ_5, yZ_6, yZ_z, yZ_f0, yZ_f1, yZ_f2, yZ_f3, yZ_f4, yZ_f5, yZ_f6⟩ := blf7 KZ
    obtain ⟨yS_0, yS_1, yS_2, yS_3, yS_4, yS_5, yS_6, yS_z, yS_f0, yS_f1, yS_f2, yS_f3, yS_f4, yS_f5, yS_f6⟩ := blf7 KS
    go_wp2
    have hs := st7 w3 w.heap.size 0 (.int .i64 0) 1 (.int .u64 0) 2 (.int .i64 0) 3 (.int .u64 0) 4 (.int .i64 0) 5 (.int .i64 0) 6 (.int .i64 0)
    replace KZ := Lib.hid (blk_set (blk_set (blk_set (blk_set (blk_set (blk_set (blk_set KZ.out (j := 0) (by simp) (.int .i64 0)) (j := 1) (by simp) (.int .u64 0)) (j := 2) (by simp) (.int .i64 0)) (j := 3) (by simp) (.int .u64 0)) (j := 4) (by simp) (.int .i64 0)) (j := 5) (by simp) (.int .i64 0)) (j := 6) (by simp) (.int .i64 0))
    replace KN := oB hs KN (by omega)
    replace KS := oB hs KS (by omega)
    replace HB := oH hs HB (by omega)
    clear hs
    clear yZ_0 yZ_1 yZ_2 yZ_3 yZ_4 yZ_5 yZ_6 yZ_z yZ_f0 yZ_f1 yZ_f2 yZ_f3 yZ_f4 yZ_f5 yZ_f6 yS_0 yS_1 yS_2 yS_3 yS_4 yS_5 yS_6 yS_z yS_f0 yS_f1 yS_f2 yS_f3 yS_f4 yS_f5 yS_f6
    generalize ((((((w3.setCell ⟨w.heap.size, 0, none⟩ (.int .i64 0)).setCell ⟨w.heap.size, 1, none⟩ (.int .u64 0)).setCell ⟨w.heap.size, 2, none⟩ (.int .i64 0)).setCell ⟨w.heap.size, 3, none⟩ (.int .u64 0)).setCell ⟨w.heap.size, 4, none⟩ (.int .i64 0)).setCell ⟨w.heap.size, 5, none⟩ (.int .i64 0)).setCell ⟨w.heap.size, 6, none⟩ (.int .i64 0) = w4 at *
    simp only [List.set] at KZ
    obtain ⟨yZ_0, yZ_1, yZ_2, yZ_3, yZ_4, yZ_5, yZ_6, yZ_z⟩ := blk7 KZ
    refine bodyPost_ret (v := .tuple #[.agg #[.int .i64 0, .int .u64 0, .int .i64 0, .int .u64 0, .int .i64 0, .int .i64 0, .int .i64 0], .int .i64 14]) (by simp [results, Tryz.results28, go_sem, yZ_0, yZ_1, yZ_2, yZ_3, yZ_4, yZ_5, yZ_6]) rfl ⟨by rw [HE.out], HB.out⟩
  · have g : (T == 0) = false := by simpa using ht
    have NX := Lib.hid (NX.out (HDP ht))
    have NY := Lib.hid (NY.out (HDP ht))
    have E1 := E0.trans (if_neg ht)
    have hv : vldP cx cy = false := by
      cases hv : vldP cx cy with
      | false => rfl
      | true => rw [hv, if_pos rfl] at E1; exact absurd E1 hs
    rw [hv] at E1 VP
    have HE : Hid (ee = 2) := Lib.hid E1
    clear E0 E1 HDP ht hs PI hv
    by_cases ix : I64 cx
    · rw [if_pos ix, decide_eq_true ix] at NX
      by_cases iy : I64 cy
      · rw [if_pos iy, decide_eq_true iy] at NY
        clear ix iy
        obtain ⟨yZ_0, yZ_1, yZ_2, yZ_3, yZ_4, yZ_5, yZ_6, yZ_z, yZ_f0, yZ_f1, yZ_f2, yZ_f3, yZ_f4, yZ_f5, yZ_f6⟩ := blf7 KZ
        obtain ⟨yS_0, yS_1, yS_2, yS_3, yS_4, yS_5, yS_6, yS_z, yS_f0, yS_f1, yS_f2, yS_f3, yS_f4, yS_f5, yS_f6⟩ := blf7 KS
        go_wp2_with fail
        refine (NX.out _).mono ?_
        rintro e4 w4 ⟨rfl, hb4⟩
        replace HB := hT HB hb4
        replace KZ := hK KZ hb4
        replace KN := hK KN hb4
        replace KS := hK KS hb4
        clear yZ_0 yZ_1 yZ_2 yZ_3 yZ_4 yZ_5 yZ_6 yZ_z yZ_f0 yZ_f1 yZ_f2 yZ_f3 yZ_f4 yZ_f5 yZ_f6 yS_0 yS_1 yS_2 yS_3 yS_4 yS_5 yS_6 yS_z yS_f0 yS_f1 yS_f2 yS_f3 yS_f4 yS_f5 yS_f6
        clear hb4
        obtain ⟨yS_0, yS_1, yS_2, yS_3, yS_4, yS_5, yS_6, yS_z, yS_f0, yS_f1, yS_f2, yS_f3, yS_f4, yS_f5, yS_f6⟩ := blf7 KS
        go_wp2_with fail
        refine (NY.out _).mono ?_
        rintro e5 w5 ⟨rfl, hb5⟩
        replace HB := hT HB hb5
        replace KZ := hK KZ hb5
        replace KN := hK KN hb5
        replace KS := hK KS hb5
        clear yS_0 yS_1 yS_2 yS_3 yS_4 yS_5 yS_6 yS_z yS_f0 yS_f1 yS_f2 yS_f3 yS_f4 yS_f5 yS_f6
        clear hb5
        obtain ⟨yZ_0, yZ_1, yZ_2, yZ_3, yZ_4, yZ_5, yZ_6, yZ_z, yZ_f0, yZ_f1, yZ_f2, yZ_f3, yZ_f4, yZ_f5, yZ_f6⟩ := blf7 KZ
        obtain ⟨yS_0, yS_1, yS_2, yS_3, yS_4, yS_5, yS_6, yS_z, yS_f0, yS_f1, yS_f2, yS_f3, yS_f4, yS_f5, yS_f6⟩ := blf7 KS
        go_wp2_with fail
        have hs := st2 w5 bS 5 (.int .i64 cx) 6 (.int .i64 cy)
        replace KZ := oB hs KZ (by omega)
        replace KN := oB hs KN (by omega)
        replace KS := Lib.hid (blk_set (blk_set KS.out (j := 5) (by simp) (.int .i64 cx)) (j := 6) (by simp) (.int .i64 cy))
        replace HB := oH hs HB (by omega)
        clear hs
        clear yZ_0 yZ_1 yZ_2 yZ_3 yZ_4 yZ_5 yZ_6 yZ_z yZ_f0 yZ_f1 yZ_f2 yZ_f3 yZ_f4 yZ_f5 yZ_f6 yS_0 yS_1 yS_2 yS_3 yS_4 yS_5 yS_6 yS_z yS_f0 yS_f1 yS_f2 yS_f3 yS_f4 yS_f5 yS_f6
        generalize (w5.setCell ⟨bS, 5, none⟩ (.int .i64 cx)).setCell ⟨bS, 6, none⟩ (.int .i64 cy) = w6 at *
        simp only [List.set] at KS
        refine (VP.out _).mono ?_
        rintro e7 w7 ⟨rfl, hb7⟩
        replace HB := hT HB hb7
        replace KZ := hK KZ hb7
        replace KN := hK KN hb7
        replace KS := hK KS hb7
        clear hb7
        obtain ⟨yZ_0, yZ_1, yZ_2, yZ_3, yZ_4, yZ_5, yZ_6, yZ_z, yZ_f0, yZ_f1, yZ_f2, yZ_f3, yZ_f4, yZ_f5, yZ_f6⟩ := blf7 KZ
        obtain ⟨yS_0, yS_1, yS_2, yS_3, yS_4, yS_5, yS_6, yS_z, yS_f0, yS_f1, yS_f2, yS_f3, yS_f4, yS_f5, yS_f6⟩ := blf7 KS
        go_wp2
        have hs := st7 w7 w.heap.size 0 (.int .i64 0) 1 (.int .u64 0) 2 (.int .i64 0) 3 (.int .u64 0) 4 (.int .i64 0) 5 (.int .i64 0) 6 (.int .i64 0)
        replace KZ := Lib.hid (blk_set (blk_set (blk_set (blk_set (blk_set (blk_set (blk_set KZ.out (j := 0) (by simp) (.int .i64 0)) (j := 1) (by simp) (.int .u64 0)) (j := 2) (by simp) (.int .i64 0)) (j := 3) (by simp) (.int .u64 0)) (j := 4) (by simp) (.int .i64 0)) (j := 5) (by simp) (.int .i64 0)) (j := 6) (by simp) (.int .i64 0))
        replace KN := oB hs KN (by omega)
        replace KS := oB hs KS (by omega)
        replace HB := oH hs HB (by omega)
        clear hs
        clear yZ_0 yZ_1 yZ_2 yZ_3 yZ_4 yZ_5 yZ_6 yZ_z yZ_f0 yZ_f1 yZ_f2 yZ_f3 yZ_f4 yZ_f5 yZ_f6 yS_0 yS_1 yS_2 yS_3 yS_4 yS_5 yS_6 yS_z yS_f0 yS_f1 yS_f2 yS_f3 yS_f4 yS_f5 yS_f6
        generalize ((((((w7.setCell ⟨w.heap.size, 0, none⟩ (.int .i64 0)).setCell ⟨w.heap.size, 1, none⟩ (.int .u64 0)).setCell ⟨w.heap.size, 2, none⟩ (.int .i64 0)).setCell ⟨w.heap.size, 3, none⟩ (.int .u64 0)).setCell ⟨w.heap.size, 4, none⟩ (.int .i64 0)).setCell ⟨w.heap.size, 5, none⟩ (.int .i64 0)).setCell ⟨w.heap.size, 6, none⟩ (.int .i64 0) = w8 at *
        simp only [List.set] at KZ
        obtain ⟨yZ_0, yZ_1, yZ_2, yZ_3, yZ_4, yZ_5, yZ_6, yZ_z⟩ := blk7 KZ
        refine bodyPost_ret (v := .tuple #[.agg #[.int .i64 0, .int .u64 0, .int .i64 0, .int .u64 0, .int .i64 0, .int .i64 0, .int .i64 0], .int .i64 2]) (by simp [results, Tryz.results28, go_sem, yZ_0, yZ_1, yZ_2, yZ_3, yZ_4, yZ_5, yZ_6]) rfl ⟨by rw [HE.out], HB.out⟩
      · rw [if_neg iy, decide_eq_false iy] at NY
        clear ix iy
        obtain ⟨yZ_0, yZ_1, yZ_2, yZ_3, yZ_4, yZ_5, yZ_6, yZ_z, yZ_f0, yZ_f1, yZ_f2, yZ_f3, yZ_f4, yZ_f5, yZ_f6⟩ := blf7 KZ
        obtain ⟨yS_0, yS_1, yS_2, yS_3, yS_4, yS_5, yS_6, yS_z, yS_f0, yS_f1, yS_f2, yS_f3, yS_f4, yS_f5, yS_f6⟩ := blf7 KS
        go_wp2_with fail
        refine (NX.out _).mono ?_
        rintro e4 w4 ⟨rfl, hb4⟩
        replace HB := hT HB hb4
        replace KZ := hK KZ hb4
        replace KN := hK KN hb4
        replace KS := hK KS hb4
        clear yZ_0 yZ_1 yZ_2 yZ_3 yZ_4 yZ_5 yZ_6 yZ_z yZ_f0 yZ_f1 yZ_f2 yZ_f3 yZ_f4 yZ_f5 yZ_f6 yS_0 yS_1 yS_2 yS_3 yS_4 yS_5 yS_6 yS_z yS_f0 yS_f1 yS_f2 yS_f3 yS_f4 yS_f5 yS_f6
        clear hb4
        obtain ⟨yS_0, yS_1, yS_2, yS_3, yS_4, yS_5, yS_6, yS_z, yS_f0, yS_f1, yS_f2, yS_f3, yS_f4, yS_f5, yS_f6⟩ := blf7 KS
        go_wp2_with fail
        refine (NY.out _).mono ?_
        rintro e5 w5 ⟨rfl, hb5⟩
        replace HB := hT HB hb5
        replace KZ := hK KZ hb5
        replace KN := hK KN hb5
        replace KS := hK KS hb5
        clear yS_0 yS_1 yS_2 yS_3 yS_4 yS_5 yS_6 yS_z yS_f0 yS_f1 yS_f2 yS_f3 yS_f4 yS_f5 yS_f6
        clear hb5
        obtain ⟨yZ_0, yZ_1, yZ_2, yZ_3, yZ_4, yZ_5, yZ_6, yZ_z, yZ_f0, yZ_f1, yZ_f2, yZ_f3, yZ_f4, yZ_f5, yZ_f6⟩ := blf7 KZ
        obtain ⟨yS_0, yS_1, yS_2, yS_3, yS_4, yS_5, yS_6, yS_z, yS_f0, yS_f1, yS_f2, yS_f3, yS_f4, yS_f5, yS_f6⟩ := blf7 KS
        go_wp2
        have hs := st2 w5 bS 5 (.int .i64 cx) 6 (.int .i64 0)
        replace KZ := oB hs KZ (by omega)
        replace KN := oB hs KN (by omega)
        replace KS := Lib.hid (blk_set (blk_set KS.out (j := 5) (by simp) (.int .i64 cx)) (j := 6) (by simp) (.int .i64 0))
        replace HB := oH hs HB (by omega)
        clear hs
        clear yZ_0 yZ_1 yZ_2 yZ_3 yZ_4 yZ_5 yZ_6 yZ_z yZ_f0 yZ_f1 yZ_f2 yZ_f3 yZ_f4 yZ_f5 yZ_f6 yS_0 yS_1 yS_2 yS_3 yS_4 yS_5 yS_6 yS_z yS_f0 yS_f1 yS_f2 yS_f3 yS_f4 yS_f5 yS_f6
        generalize (w5.setCell ⟨bS, 5, none⟩ (.int .i64 cx)).setCell ⟨bS, 6, none⟩ (.int .i64 0) = w6 at *
        simp only [List.set] at KS
        have hs := st7 w6 w.heap.size 0 (.int .i64 0) 1 (.int .u64 0) 2 (.int .i64 0) 3 (.int .u64 0) 4 (.int .i64 0) 5 (.int .i64 0) 6 (.int .i64 0)
        replace KZ := Lib.hid (blk_set (blk_set (blk_set (blk_set (blk_set (blk_set (blk_set KZ.out (j := 0) (by simp) (.int .i64 0)) (j := 1) (by simp) (.int .u64 0)) (j := 2) (by simp) (.int .i64 0)) (j := 3) (by simp) (.int .u64 0)) (j := 4) (by simp) (.int .i64 0)) (j := 5) (by simp) (.int .i64 0)) (j := 6) (by simp) (.int .i64 0))
        replace KN := oB hs KN (by omega)
        replace KS := oB hs KS (by omega)
        replace HB := oH hs HB (by omega)
        clear hs
        generalize ((((((w6.setCell ⟨w.heap.size, 0, none⟩ (.int .i64 0)).setCell ⟨w.heap.size, 1, none⟩ (.int .u64 0)).setCell ⟨w.heap.size, 2, none⟩ (.int .i64 0)).setCell ⟨w.heap.size, 3, none⟩ (.int .u64 0)).setCell ⟨w.heap.size, 4, none⟩ (.int .i64 0)).setCell ⟨w.heap.size, 5, none⟩ (.int .i64 0)).setCell ⟨w.heap.size, 6, none⟩ (.int .i64 0) = w7 at *
        simp only [List.set] at KZ
        obtain ⟨yZ_0, yZ_1, yZ_2, yZ_3, yZ_4, yZ_5, yZ_6, yZ_z⟩ := blk7 KZ
        refine bodyPost_ret (v := .tuple #[.agg #[.int .i64 0, .int .u64 0, .int .i64 0, .int .u64 0, .int .i64 0, .int .i64 0, .int .i64 0], .int .i64 2]) (by simp [results, Tryz.results28, go_sem, yZ_0, yZ_1, yZ_2, yZ_3, yZ_4, yZ_5, yZ_6]) rfl ⟨by rw [HE.out], HB.out⟩
    · rw [if_neg ix, decide_eq_false ix] at NX
      obtain ⟨oy, hoy⟩ : ∃ b, decide (I64 cy) = b := ⟨_, rfl⟩
      obtain ⟨uy, huy⟩ : ∃ b, (if I64 cy then cy else 0) = b := ⟨_, rfl⟩
      rw [hoy, huy] at NY
      clear ix hoy huy
      obtain ⟨yZ_0, yZ_1, yZ_2, yZ_3, yZ_4, yZ_5, yZ_6, yZ_z, yZ_f0, yZ_f1, yZ_f2, yZ_f3, yZ_f4, yZ_f5, yZ_f6⟩ := blf7 KZ
      obtain ⟨yS_0, yS_1, yS_2, yS_3, yS_4, yS_5, yS_6, yS_z, yS_f0, yS_f1, yS_f2, yS_f3, yS_f4, yS_f5, yS_f6⟩ := blf7 KS
      go_wp2_with fail
      refine (NX.out _).mono ?_
      rintro e4 w4 ⟨rfl, hb4⟩
      replace HB := hT HB hb4
      replace KZ := hK KZ hb4
      replace KN := hK KN hb4
      replace KS := hK KS hb4
      clear yZ_0 yZ_1 yZ_2 yZ_3 yZ_4 yZ_5 yZ_6 yZ_z yZ_f0 yZ_f1 yZ_f2 yZ_f3 yZ_f4 yZ_f5 yZ_f6 yS_0 yS_1 yS_2 yS_3 yS_4 yS_5 yS_6 yS_z yS_f0 yS_f1 yS_f2 yS_f3 yS_f4 yS_f5 yS_f6
      clear hb4
      obtain ⟨yS_0, yS_1, yS_2, yS_3, yS_4, yS_5, yS_6, yS_z, yS_f0, yS_f1, yS_f2, yS_f3, yS_f4, yS_f5, yS_f6⟩ := blf7 KS
      go_wp2_with fail
      refine (NY.out _).mono ?_
      rintro e5 w5 ⟨rfl, hb5⟩
      replace HB := hT HB hb5
      replace KZ := hK KZ hb5
      replace KN := hK KN hb5
      replace KS := hK KS hb5
      clear yS_0 yS_1 yS_2 yS_3 yS_4 yS_5 yS_6 yS_z yS_f0 yS_f1 yS_f2 yS_f3 yS_f4 yS_f5 yS_f6
      clear hb5
      obtain ⟨yZ_0, yZ_1, yZ_2, yZ_3, yZ_4, yZ_5, yZ_6, yZ_z, yZ_f0, yZ_f1, yZ_f2, yZ_f3, yZ_f4, yZ_f5, yZ_f6⟩ := blf7 KZ
      obtain ⟨yS_0, yS_1, yS_2, yS_3, yS_4, yS_5, yS_6, yS_z, yS_f0, yS_f1, yS_f2, yS_f3, yS_f4, yS_f5, yS_f6⟩ := blf7 KS
      go_wp2
      have hs := st2 w5 bS 5 (.int .i64 0) 6 (.int .i64 uy)
      replace KZ := oB hs KZ (by omega)
      replace KN := oB hs KN (by omega)
      replace KS := Lib.hid (blk_set (blk_set KS.out (j := 5) (by simp) (.int .i64 0)) (j := 6) (by simp) (.int .i64 uy))
      replace HB := oH hs HB (by omega)
      clear hs
      clear yZ_0 yZ_1 yZ_2 yZ_3 yZ_4 yZ_5 yZ_6 yZ_z yZ_f0 yZ_f1 yZ_f2 yZ_f3 yZ_f4 yZ_f5 yZ_f6 yS_0 yS_1 yS_2 yS_3 yS_4 yS_5 yS_6 yS_z yS_f0 yS_f1 yS_f2 yS_f3 yS_f4 yS_f5 yS_f6
      generalize (w5.setCell ⟨bS, 5, none⟩ (.int .i64 0)).setCell ⟨bS, 6, none⟩ (.int .i64 uy) = w6 at *
      simp only [List.set] at KS
      have hs := st7 w6 w.heap.size 0 (.int .i64 0) 1 (.int .u64 0) 2 (.int .i64 0) 3 (.int .u64 0) 4 (.int .i64 0) 5 (.int .i64 0) 6 (.int .i64 0)
      replace KZ := Lib.hid (blk_set (blk_set (blk_set (blk_set (blk_set (blk_set (blk_set KZ.out (j := 0) (by simp) (.int .i64 0)) (j := 1) (by simp) (.int .u64 0)) (j := 2) (by simp) (.int .i64 0)) (j := 3) (by simp) (.int .u64 0)) (j := 4) (by simp) (.int .i64 0)) (j := 5) (by simp) (.int .i64 0)) (j := 6) (by simp) (.int .i64 0))
      replace KN := oB hs KN (by omega)
      replace KS := oB hs KS (by omega)
      replace HB := oH hs HB (by omega)
      clear hs
      generalize ((((((w6.setCell ⟨w.heap.size, 0, none⟩ (.int .i64 0)).setCell ⟨w.heap.size, 1, none⟩ (.int .u64 0)).setCell ⟨w.heap.size, 2, none⟩ (.int .i64 0)).setCell ⟨w.heap.size, 3, none⟩ (.int .u64 0)).setCell ⟨w.heap.size, 4, none⟩ (.int .i64 0)).setCell ⟨w.heap.size, 5, none⟩ (.int .i64 0)).setCell ⟨w.heap.size, 6, none⟩ (.int .i64 0) = w7 at *
      simp only [List.set] at KZ
      obtain ⟨yZ_0, yZ_1, yZ_2, yZ_3, yZ_4, yZ_5, yZ_6, yZ_z⟩ := blk7 KZ
      refine bodyPost_ret (v := .tuple #[.agg #[.int .i64 0, .int .u64 0, .int .i64 0, .int .u64 0, .int .i64 0, .int .i64 0, .int .i64 0], .int .i64 2]) (by simp [results, Tryz.results28, go_sem, yZ_0, yZ_1, yZ_2, yZ_3, yZ_4, yZ_5, yZ_6]) rfl ⟨by rw [HE.out], HB.out⟩
set_option maxHeartbeats 40000000 in
set_option maxRecDepth 100000 in
theorem sol_ok (l : List Ms) (v : Value) (w : World) (h : LstAt l v w) (hs : solE l = 0) :
    Calls Tryz.prog 28 #[v] w fun e w' => e = .returned (.tuple #[.agg #[.int .i64 (hiW (solX l)), .int .u64 (loW (solX l)), .int .i64 (hiW (solY l)), .int .u64 (loW (solY l)), .int .i64 (detN l), .int .i64 (cenX l), .int .i64 (cenY l)], .int .i64 0]) ∧ Below w.heap.size w w' := by
  have hc := (sol_chk hs).1
  obtain ⟨p, cap, rfl⟩ := lst_form h
  have OL := Lib.hid (okL_of hc)
  obtain ⟨⟨a0, a1⟩, ⟨b0, b1⟩, ⟨c0, c1⟩, ⟨d0, d1⟩, ⟨e0, e1⟩⟩ := nrm_bd OL.out
  obtain ⟨⟨dt0, dt1⟩, ⟨sx0, sx1⟩, ⟨sy0, sy1⟩⟩ := sol_bd (nrm_bd OL.out)
  have NO := Lib.hid fun w h => normal_any l (.slice p l.length cap) w h hc
  have P1 := mulb (X := 16777216) (Y := 16777216) (by omega) a0 a1 c0 c1
  have P2 := mulb (X := 16777216) (Y := 16777216) (by omega) b0 b1 b0 b1
  have LX := Lib.hid fun w => lsq_less (nYY l) (nXZ l) (nXY l) (nYZ l) w ⟨by omega, by omega⟩ ⟨by omega, by omega⟩ ⟨by omega, by omega⟩ ⟨by omega, by omega⟩ (show FitW (solX l) from ⟨by omega, by omega⟩)
  have LY := Lib.hid fun w => lsq_less (nXX l) (nYZ l) (nXY l) (nXZ l) w ⟨by omega, by omega⟩ ⟨by omega, by omega⟩ ⟨by omega, by omega⟩ ⟨by omega, by omega⟩ (show FitW (solY l) from ⟨by omega, by omega⟩)
  have q1 : IntKind.i64.wrap (nXX l * nYY l) = nXX l * nYY l := IntWalk.i64_in _ (by omega)
  have q2 : IntKind.i64.wrap (nXY l * nXY l) = nXY l * nXY l := IntWalk.i64_in _ (by omega)
  have q3 : IntKind.i64.wrap (nXX l * nYY l - nXY l * nXY l) = detN l := IntWalk.i64_in _ (by unfold detN at dt0 dt1; omega)
  have HX : Hid (solX l = nYY l * nXZ l - nXY l * nYZ l) := Lib.hid rfl
  have HY : Hid (solY l = nXX l * nYZ l - nXY l * nXZ l) := Lib.hid rfl
  rw [← HX.out] at LX
  rw [← HY.out] at LY
  have NX := Lib.hid fun (hd : 0 < detN l) w => nearest_any (solX l) (detN l) w (by omega) (by omega) hd (by omega)
  have NY := Lib.hid fun (hd : 0 < detN l) w => nearest_any (solY l) (detN l) w (by omega) (by omega) hd (by omega)
  have VP := Lib.hid fun w => vldP_any (cenX l) (cenY l) w
  have E0 : solE l = if detN l = 0 then 14 else if (pOk (cenX l) && pOk (cenY l)) = true then 0 else 2 := by unfold solE; rw [if_pos hc]
  have HDP : detN l ≠ 0 → 0 < detN l := fun q => by have := det_nonneg l (chk_w hc); omega
  rw [show nearI2 (solX l) (detN l) = cenX l from rfl] at NX
  rw [show nearI2 (solY l) (detN l) = cenY l from rfl] at NY
  clear hc a0 a1 b0 b1 c0 c1 d0 d1 e0 e1 dt0 dt1 sx0 sx1 sy0 sy1 P1 P2 HX HY
  obtain ⟨A, EA⟩ : ∃ x, nXX l = x := ⟨_, rfl⟩
  obtain ⟨B, EB⟩ : ∃ x, nXY l = x := ⟨_, rfl⟩
  obtain ⟨C, EC⟩ : ∃ x, nYY l = x := ⟨_, rfl⟩
  obtain ⟨D, ED⟩ : ∃ x, nXZ l = x := ⟨_, rfl⟩
  obtain ⟨E, EE⟩ : ∃ x, nYZ l = x := ⟨_, rfl⟩
  obtain ⟨X, EX⟩ : ∃ x, solX l = x := ⟨_, rfl⟩
  obtain ⟨Y, EY⟩ : ∃ x, solY l = x := ⟨_, rfl⟩
  obtain ⟨T, ET⟩ : ∃ x, detN l = x := ⟨_, rfl⟩
  rw [EA, EB, EC, ED, EE] at NO
  rw [EC, ED, EB, EE, EX] at LX
  rw [EA, EE, EB, ED, EY] at LY
  rw [EA, EC] at q1
  rw [EB] at q2
  rw [EA, EB, EC, ET] at q3
  rw [ET, EX] at NX
  rw [ET, EY] at NY
  rw [ET] at E0 HDP
  have HX := Lib.hid EX
  have HY := Lib.hid EY
  have HT := Lib.hid ET
  clear EA EB EC ED EE EX EY ET
  obtain ⟨cx, hcx⟩ : ∃ x, cenX l = x := ⟨_, rfl⟩
  obtain ⟨cy, hcy⟩ : ∃ x, cenY l = x := ⟨_, rfl⟩
  rw [hcx] at NX
  rw [hcy] at NY
  rw [hcx, hcy] at VP E0
  have HCX := Lib.hid hcx
  have HCY := Lib.hid hcy
  clear hcx hcy
  have PV : (pOk cx && pOk cy) = vldP cx cy := by unfold pOk vldP; rw [Bool.eq_iff_iff]; simp only [Bool.and_eq_true, decide_eq_true_eq]; omega
  have PI : vldP cx cy = true → I64 cx ∧ I64 cy := fun h => by have := vldP_iff.1 h; exact ⟨⟨by omega, by omega⟩, by omega, by omega⟩
  rw [PV] at E0
  clear PV
  unfold wv at LX LY NX NY
  rw [hs] at E0
  clear hs
  have ht : T ≠ 0 := fun q => by rw [if_pos q] at E0; cases E0
  have hv : vldP cx cy = true := by
    rw [if_neg ht] at E0
    cases hv : vldP cx cy with
    | true => rfl
    | false => rw [hv, if_neg (by simp)] at E0; cases E0
  have g : (T == 0) = false := by simpa using ht
  have NX := Lib.hid (NX.out (HDP ht))
  have NY := Lib.hid (NY.out (HDP ht))
  obtain ⟨ix, iy⟩ := PI hv
  rw [if_pos ix, decide_eq_true ix] at NX
  rw [if_pos iy, decide_eq_true iy] at NY
  rw [hv] at VP
  clear E0 HDP PI ht hv ix iy
  have H0 := Lib.hid h
  obtain ⟨KZ, HB⟩ := ent1 w #[.int .i64 0, .int .u64 0, .int .i64 0, .int .u64 0, .int .i64 0, .int .i64 0, .int .i64 0] 81
  go_enter Tryz.func28, Tryz.ntmps28
  clear h
  go_wp2_with fail
  generalize w.alloc (.cells #[.int .i64 0, .int .u64 0, .int .i64 0, .int .u64 0, .int .i64 0, .int .i64 0, .int .i64 0] 81) = w0 at *
  refine (NO.out _ (H0.out.below HB.out)).mono ?_
  rintro e1 w1 ⟨rfl, hb1⟩
  replace HB := hT HB hb1
  replace KZ := hK KZ hb1
  clear hb1
  go_wp2_with fail
  obtain ⟨KN, hb2⟩ := alB w1 #[.int .i64 A, .int .i64 B, .int .i64 C, .int .i64 D, .int .i64 E] 112
  have hnN := HB.out.size
  have nzN_Z := KZ.out.lt
  replace HB := hT HB hb2
  replace KZ := hK KZ hb2
  clear hb2
  generalize w1.alloc (.cells #[.int .i64 A, .int .i64 B, .int .i64 C, .int .i64 D, .int .i64 E] 112) = w2 at *
  generalize w1.heap.size = bN at *
  have neN_Z : bN ≠ w.heap.size := by omega
  clear nzN_Z
  have BD := Lib.hid (show Below w2.heap.size w2 w2.drew from ⟨rfl, rfl, rfl, Nat.le_refl _, fun _ _ => rfl⟩)
  have BD2 := Lib.hid (below_drew_alloc w2 (.cells #[.int .i64 0, .int .u64 0, .int .i64 0, .int .u64 0, .int .i64 0, .int .i64 0, .int .i64 0] 81))
  have DLX := Lib.hid fun W (h : Below w2.heap.size w2 W) => (LX.out W).mono fun e w' ⟨h1, h2⟩ => show _ ∧ Below w2.heap.size w2 w' ∧ Below W.heap.size W w' from ⟨h1, h.trans (h2.mono h.size), h2⟩
  have DLY := Lib.hid fun W (h : Below w2.heap.size w2 W) => (LY.out W).mono fun e w' ⟨h1, h2⟩ => show _ ∧ Below w2.heap.size w2 w' ∧ Below W.heap.size W w' from ⟨h1, h.trans (h2.mono h.size), h2⟩
  obtain ⟨yN_0, yN_1, yN_2, yN_3, yN_4, yN_z⟩ := blk5 KN
  apply wp_join (R := fun b w' => w.heap.size ≤ b ∧ b ≠ w.heap.size ∧ b ≠ bN ∧ Hid (Below w.heap.size w w') ∧ Hid (Blk [.int .i64 (hiW X), .int .u64 (loW X), .int .i64 (hiW Y), .int .u64 (loW Y), .int .i64 T, .int .i64 0, .int .i64 0] b w') ∧ Hid (Blk [.int .i64 0, .int .u64 0, .int .i64 0, .int .u64 0, .int .i64 0, .int .i64 0, .int .i64 0] w.heap.size w') ∧ Hid (Blk [.int .i64 A, .int .i64 B, .int .i64 C, .int .i64 D, .int .i64 E] bN w'))
  · go_region_held3 (fun w' => w'.cell? ⟨bN, 0, none⟩ = some (.int .i64 A) ∧ w'.cell? ⟨bN, 1, none⟩ = some (.int .i64 B) ∧ w'.cell? ⟨bN, 2, none⟩ = some (.int .i64 C) ∧ w'.cell? ⟨bN, 3, none⟩ = some (.int .i64 D) ∧ w'.cell? ⟨bN, 4, none⟩ = some (.int .i64 E)) (first | (refine ⟨?_, ?_, ?_, ?_, ?_⟩ <;> first | with_reducible assumption | (rw [far7 KV.out.1 yN_z]; with_reducible assumption)) | go_keep)
      (first
        | (go_at_call 54; with_reducible refine Calls.mono (DLX.out _ (by first | with_reducible exact BD.out | with_reducible exact BD2.out | with_reducible exact HX.out | with_reducible exact HX.out.alloc HX.out.size _)) ?_; rintro e9 w9 ⟨rfl, hb9, hc9⟩; have pN := KN.out.below hb9; have qN0 := pN.c 0 _ rfl; have qN1 := pN.c 1 _ rfl; have qN2 := pN.c 2 _ rfl; have qN3 := pN.c 3 _ rfl; have qN4 := pN.c 4 _ rfl; clear pN; (first | (with_reducible have KV := Lib.hid (kv_drew (vs := #[.int .i64 0, .int .u64 0, .int .i64 0, .int .u64 0, .int .i64 0, .int .i64 0, .int .i64 0]) (t := 81) hc9); have pV := KV.out.2; have v0 := pV.c 0 _ rfl; have vf0 := pV.f 0 _ rfl; have v1 := pV.c 1 _ rfl; have vf1 := pV.f 1 _ rfl; have v2 := pV.c 2 _ rfl; have vf2 := pV.f 2 _ rfl; have v3 := pV.c 3 _ rfl; have vf3 := pV.f 3 _ rfl; have v4 := pV.c 4 _ rfl; have vf4 := pV.f 4 _ rfl; have v5 := pV.c 5 _ rfl; have vf5 := pV.f 5 _ rfl; have v6 := pV.c 6 _ rfl; have vf6 := pV.f 6 _ rfl; have v9 := pV.lt; clear pV) | (with_reducible have KV := Lib.hid (kv_new (vs := #[.int .i64 0, .int .u64 0, .int .i64 0, .int .u64 0, .int .i64 0, .int .i64 0, .int .i64 0]) (t := 81) HX.out hc9); have pV := KV.out.2; have v0 := pV.c 0 _ rfl; have vf0 := pV.f 0 _ rfl; have v1 := pV.c 1 _ rfl; have vf1 := pV.f 1 _ rfl; have v2 := pV.c 2 _ rfl; have vf2 := pV.f 2 _ rfl; have v3 := pV.c 3 _ rfl; have vf3 := pV.f 3 _ rfl; have v4 := pV.c 4 _ rfl; have vf4 := pV.f 4 _ rfl; have v5 := pV.c 5 _ rfl; have vf5 := pV.f 5 _ rfl; have v6 := pV.c 6 _ rfl; have vf6 := pV.f 6 _ rfl; have v9 := pV.lt; clear pV) | (with_reducible have KV := Lib.hid (kv_old KV.out hc9); have pV := KV.out.2; have v0 := pV.c 0 _ rfl; have vf0 := pV.f 0 _ rfl; have v1 := pV.c 1 _ rfl; have vf1 := pV.f 1 _ rfl; have v2 := pV.c 2 _ rfl; have vf2 := pV.f 2 _ rfl; have v3 := pV.c 3 _ rfl; have vf3 := pV.f 3 _ rfl; have v4 := pV.c 4 _ rfl; have vf4 := pV.f 4 _ rfl; have v5 := pV.c 5 _ rfl; have vf5 := pV.f 5 _ rfl; have v6 := pV.c 6 _ rfl; have vf6 := pV.f 6 _ rfl; have v9 := pV.lt; clear pV) | skip); have HX := Lib.hid hb9; clear hb9 hc9)
        | (go_at_call 54; with_reducible refine Calls.mono (DLY.out _ (by first | with_reducible exact BD.out | with_reducible exact BD2.out | with_reducible exact HX.out | with_reducible exact HX.out.alloc HX.out.size _)) ?_; rintro e9 w9 ⟨rfl, hb9, hc9⟩; have pN := KN.out.below hb9; have qN0 := pN.c 0 _ rfl; have qN1 := pN.c 1 _ rfl; have qN2 := pN.c 2 _ rfl; have qN3 := pN.c 3 _ rfl; have qN4 := pN.c 4 _ rfl; clear pN; (first | (with_reducible have KV := Lib.hid (kv_drew (vs := #[.int .i64 0, .int .u64 0, .int .i64 0, .int .u64 0, .int .i64 0, .int .i64 0, .int .i64 0]) (t := 81) hc9); have pV := KV.out.2; have v0 := pV.c 0 _ rfl; have vf0 := pV.f 0 _ rfl; have v1 := pV.c 1 _ rfl; have vf1 := pV.f 1 _ rfl; have v2 := pV.c 2 _ rfl; have vf2 := pV.f 2 _ rfl; have v3 := pV.c 3 _ rfl; have vf3 := pV.f 3 _ rfl; have v4 := pV.c 4 _ rfl; have vf4 := pV.f 4 _ rfl; have v5 := pV.c 5 _ rfl; have vf5 := pV.f 5 _ rfl; have v6 := pV.c 6 _ rfl; have vf6 := pV.f 6 _ rfl; have v9 := pV.lt; clear pV) | (with_reducible have KV := Lib.hid (kv_new (vs := #[.int .i64 0, .int .u64 0, .int .i64 0, .int .u64 0, .int .i64 0, .int .i64 0, .int .i64 0]) (t := 81) HX.out hc9); have pV := KV.out.2; have v0 := pV.c 0 _ rfl; have vf0 := pV.f 0 _ rfl; have v1 := pV.c 1 _ rfl; have vf1 := pV.f 1 _ rfl; have v2 := pV.c 2 _ rfl; have vf2 := pV.f 2 _ rfl; have v3 := pV.c 3 _ rfl; have vf3 := pV.f 3 _ rfl; have v4 := pV.c 4 _ rfl; have vf4 := pV.f 4 _ rfl; have v5 := pV.c 5 _ rfl; have vf5 := pV.f 5 _ rfl; have v6 := pV.c 6 _ rfl; have vf6 := pV.f 6 _ rfl; have v9 := pV.lt; clear pV) | (with_reducible have KV := Lib.hid (kv_old KV.out hc9); have pV := KV.out.2; have v0 := pV.c 0 _ rfl; have vf0 := pV.f 0 _ rfl; have v1 := pV.c 1 _ rfl; have vf1 := pV.f 1 _ rfl; have v2 := pV.c 2 _ rfl; have vf2 := pV.f 2 _ rfl; have v3 := pV.c 3 _ rfl; have vf3 := pV.f 3 _ rfl; have v4 := pV.c 4 _ rfl; have vf4 := pV.f 4 _ rfl; have v5 := pV.c 5 _ rfl; have vf5 := pV.f 5 _ rfl; have v6 := pV.c 6 _ rfl; have vf6 := pV.f 6 _ rfl; have v9 := pV.lt; clear pV) | skip); have HX := Lib.hid hb9; clear hb9 hc9))
    all_goals
      first
        | (have FN := kv_set7 (.int .i64 (hiW X)) (.int .u64 (loW X)) (.int .i64 (hiW Y)) (.int .u64 (loW Y)) (.int .i64 T) (.int .i64 0) (.int .i64 0) KV.out HX.out; have FB := Lib.hid FN.1; have KS := Lib.hid FN.2.1; have n0S := FN.2.2; clear FN; generalize World.setCell (World.setCell (World.setCell (World.setCell (World.setCell (World.setCell (World.setCell _ _ (.int .i64 (hiW X))) _ (.int .u64 (loW X))) _ (.int .i64 (hiW Y))) _ (.int .u64 (loW Y))) _ (.int .i64 T)) _ (.int .i64 0)) _ (.int .i64 0) = w3 at *)
        | (have FN := kv_putn (vs := #[.int .i64 (hiW X), .int .u64 (loW X), .int .i64 (hiW Y), .int .u64 (loW Y), .int .i64 T, .int .i64 0, .int .i64 0]) (t := 81) HX.out; have FB := Lib.hid FN.1; have KS := Lib.hid FN.2.1; have n0S := FN.2.2; clear FN; generalize (World.alloc _ (.cells #[.int .i64 (hiW X), .int .u64 (loW X), .int .i64 (hiW Y), .int .u64 (loW Y), .int .i64 T, .int .i64 0, .int .i64 0] 81)) = w3 at *)
      have nS := Nat.le_trans HB.out.size n0S
      have neS_Z := Nat.ne_of_gt (Nat.lt_of_lt_of_le KZ.out.lt n0S)
      have neS_N := Nat.ne_of_gt (Nat.lt_of_lt_of_le KN.out.lt n0S)
      replace HB := Lib.hid (HB.out.trans (FB.out.mono HB.out.size))
      replace KZ := Lib.hid (KZ.out.below FB.out)
      replace KN := Lib.hid (KN.out.below FB.out)
      obtain ⟨bS, hbS⟩ := ex_blk KS
      rw [← hbS] at KS nS neS_Z neS_N ⊢
      refine OnlyN.mk ⟨bS, rfl, ?_⟩
      with_reducible exact ⟨nS, neS_Z, neS_N, HB, KS, KZ, KN⟩
  clear BD BD2 DLX DLY yN_0 yN_1 yN_2 yN_3 yN_4 yN_z
  rintro bS w3 ⟨nS, neS_Z, neS_N, HB2, KS, KZ2, KN2⟩
  replace HB := HB2
  clear HB2
  replace KZ := KZ2
  clear KZ2
  replace KN := KN2
  clear KN2
  clear LX LY NO q1 q2 q3
  obtain ⟨yZ_0, yZ_1, yZ_2, yZ_3, yZ_4, yZ_5, yZ_6, yZ_z, yZ_f0, yZ_f1, yZ_f2, yZ_f3, yZ_f4, yZ_f5, yZ_f6⟩ := blf7 KZ
  obtain ⟨yS_0, yS_1, yS_2, yS_3, yS_4, yS_5, yS_6, yS_z, yS_f0, yS_f1, yS_f2, yS_f3, yS_f4, yS_f5, yS_f6⟩ := blf7 KS
  go_wp2_with fail
  refine (NX.out _).mono ?_
  rintro e4 w4 ⟨rfl, hb4⟩
  replace HB := hT HB hb4
  replace KZ := hK KZ hb4
  replace KN := hK KN hb4
  replace KS := hK KS hb4
  clear yZ_0 yZ_1 yZ_2 yZ_3 yZ_4 yZ_5 yZ_6 yZ_z yZ_f0 yZ_f1 yZ_f2 yZ_f3 yZ_f4 yZ_f5 yZ_f6 yS_0 yS_1 yS_2 yS_3 yS_4 yS_5 yS_6 yS_z yS_f0 yS_f1 yS_f2 yS_f3 yS_f4 yS_f5 yS_f6
  clear hb4
  obtain ⟨yS_0, yS_1, yS_2, yS_3, yS_4, yS_5, yS_6, yS_z, yS_f0, yS_f1, yS_f2, yS_f3, yS_f4, yS_f5, yS_f6⟩ := blf7 KS
  go_wp2_with fail
  refine (NY.out _).mono ?_
  rintro e5 w5 ⟨rfl, hb5⟩
  replace HB := hT HB hb5
  replace KZ := hK KZ hb5
  replace KN := hK KN hb5
  replace KS := hK KS hb5
  clear yS_0 yS_1 yS_2 yS_3 yS_4 yS_5 yS_6 yS_z yS_f0 yS_f1 yS_f2 yS_f3 yS_f4 yS_f5 yS_f6
  clear hb5
  obtain ⟨yZ_0, yZ_1, yZ_2, yZ_3, yZ_4, yZ_5, yZ_6, yZ_z, yZ_f0, yZ_f1, yZ_f2, yZ_f3, yZ_f4, yZ_f5, yZ_f6⟩ := blf7 KZ
  obtain ⟨yS_0, yS_1, yS_2, yS_3, yS_4, yS_5, yS_6, yS_z, yS_f0, yS_f1, yS_f2, yS_f3, yS_f4, yS_f5, yS_f6⟩ := blf7 KS
  go_wp2_with fail
  have hs := st2 w5 bS 5 (.int .i64 cx) 6 (.int .i64 cy)
  replace KZ := oB hs KZ (by omega)
  replace KN := oB hs KN (by omega)
  replace KS := Lib.hid (blk_set (blk_set KS.out (j := 5) (by simp) (.int .i64 cx)) (j := 6) (by simp) (.int .i64 cy))
  replace HB := oH hs HB (by omega)
  clear hs
  clear yZ_0 yZ_1 yZ_2 yZ_3 yZ_4 yZ_5 yZ_6 yZ_z yZ_f0 yZ_f1 yZ_f2 yZ_f3 yZ_f4 yZ_f5 yZ_f6 yS_0 yS_1 yS_2 yS_3 yS_4 yS_5 yS_6 yS_z yS_f0 yS_f1 yS_f2 yS_f3 yS_f4 yS_f5 yS_f6
  generalize (w5.setCell ⟨bS, 5, none⟩ (.int .i64 cx)).setCell ⟨bS, 6, none⟩ (.int .i64 cy) = w6 at *
  simp only [List.set] at KS
  refine (VP.out _).mono ?_
  rintro e7 w7 ⟨rfl, hb7⟩
  replace HB := hT HB hb7
  replace KZ := hK KZ hb7
  replace KN := hK KN hb7
  replace KS := hK KS hb7
  clear hb7
  obtain ⟨yZ_0, yZ_1, yZ_2, yZ_3, yZ_4, yZ_5, yZ_6, yZ_z, yZ_f0, yZ_f1, yZ_f2, yZ_f3, yZ_f4, yZ_f5, yZ_f6⟩ := blf7 KZ
  obtain ⟨yS_0, yS_1, yS_2, yS_3, yS_4, yS_5, yS_6, yS_z, yS_f0, yS_f1, yS_f2, yS_f3, yS_f4, yS_f5, yS_f6⟩ := blf7 KS
  go_wp2
  have hs := st7 w7 w.heap.size 0 (.int .i64 (hiW X)) 1 (.int .u64 (loW X)) 2 (.int .i64 (hiW Y)) 3 (.int .u64 (loW Y)) 4 (.int .i64 T) 5 (.int .i64 cx) 6 (.int .i64 cy)
  replace KZ := Lib.hid (blk_set (blk_set (blk_set (blk_set (blk_set (blk_set (blk_set KZ.out (j := 0) (by simp) (.int .i64 (hiW X))) (j := 1) (by simp) (.int .u64 (loW X))) (j := 2) (by simp) (.int .i64 (hiW Y))) (j := 3) (by simp) (.int .u64 (loW Y))) (j := 4) (by simp) (.int .i64 T)) (j := 5) (by simp) (.int .i64 cx)) (j := 6) (by simp) (.int .i64 cy))
  replace KN := oB hs KN (by omega)
  replace KS := oB hs KS (by omega)
  replace HB := oH hs HB (by omega)
  clear hs
  clear yZ_0 yZ_1 yZ_2 yZ_3 yZ_4 yZ_5 yZ_6 yZ_z yZ_f0 yZ_f1 yZ_f2 yZ_f3 yZ_f4 yZ_f5 yZ_f6 yS_0 yS_1 yS_2 yS_3 yS_4 yS_5 yS_6 yS_z yS_f0 yS_f1 yS_f2 yS_f3 yS_f4 yS_f5 yS_f6
  generalize ((((((w7.setCell ⟨w.heap.size, 0, none⟩ (.int .i64 (hiW X))).setCell ⟨w.heap.size, 1, none⟩ (.int .u64 (loW X))).setCell ⟨w.heap.size, 2, none⟩ (.int .i64 (hiW Y))).setCell ⟨w.heap.size, 3, none⟩ (.int .u64 (loW Y))).setCell ⟨w.heap.size, 4, none⟩ (.int .i64 T)).setCell ⟨w.heap.size, 5, none⟩ (.int .i64 cx)).setCell ⟨w.heap.size, 6, none⟩ (.int .i64 cy) = w8 at *
  simp only [List.set] at KZ
  obtain ⟨yZ_0, yZ_1, yZ_2, yZ_3, yZ_4, yZ_5, yZ_6, yZ_z⟩ := blk7 KZ
  refine bodyPost_ret (v := .tuple #[.agg #[.int .i64 (hiW X), .int .u64 (loW X), .int .i64 (hiW Y), .int .u64 (loW Y), .int .i64 T, .int .i64 cx, .int .i64 cy], .int .i64 0]) (by simp [results, Tryz.results28, go_sem, yZ_0, yZ_1, yZ_2, yZ_3, yZ_4, yZ_5, yZ_6]) rfl ⟨by rw [HX.out, HY.out, HT.out, HCX.out, HCY.out], HB.out⟩
set_option maxHeartbeats 8000000 in
set_option maxRecDepth 100000 in
theorem sol_bad (l : List Ms) (v : Value) (w : World) (h : LstAt l v w) (hs : solE l ≠ 0) :
    Calls Tryz.prog 28 #[v] w fun e w' => e = .returned (.tuple #[.agg #[.int .i64 0, .int .u64 0, .int .i64 0, .int .u64 0, .int .i64 0, .int .i64 0, .int .i64 0], .int .i64 (solE l)]) ∧ Below w.heap.size w w' := by
  by_cases hc : chkL l = 0
  · exact sol_bad0 l v w h hc hs
  · rw [chk_sol hc]
    clear hs
    obtain ⟨p, cap, rfl⟩ := lst_form h
    have NO := Lib.hid fun w h => normal_bad l (.slice p l.length cap) w h hc
    have g : (chkL l != 0) = true := by simpa using hc
    have g' : (chkL l == 0) = false := by simpa using hc
    clear hc
    generalize chkL l = c at *
    have H0 := Lib.hid h
    obtain ⟨KZ, HB⟩ := ent1 w #[.int .i64 0, .int .u64 0, .int .i64 0, .int .u64 0, .int .i64 0, .int .i64 0, .int .i64 0] 81
    go_enter Tryz.func28, Tryz.ntmps28
    clear h
    go_wp2_with fail
    generalize w.alloc (.cells #[.int .i64 0, .int .u64 0, .int .i64 0, .int .u64 0, .int .i64 0, .int .i64 0, .int .i64 0] 81) = w0 at *
    refine (NO.out _ (H0.out.below HB.out)).mono ?_
    rintro e1 w1 ⟨rfl, hb1⟩
    replace HB := hT HB hb1
    replace KZ := hK KZ hb1
    clear hb1
    obtain ⟨yZ_0, yZ_1, yZ_2, yZ_3, yZ_4, yZ_5, yZ_6, yZ_z, yZ_f0, yZ_f1, yZ_f2, yZ_f3, yZ_f4, yZ_f5, yZ_f6⟩ := blf7 KZ
    go_wp2
    have hs := st7 w1 w.heap.size 0 (.int .i64 0) 1 (.int .u64 0) 2 (.int .i64 0) 3 (.int .u64 0) 4 (.int .i64 0) 5 (.int .i64 0) 6 (.int .i64 0)
    replace KZ := Lib.hid (blk_set (blk_set (blk_set (blk_set (blk_set (blk_set (blk_set KZ.out (j := 0) (by simp) (.int .i64 0)) (j := 1) (by simp) (.int .u64 0)) (j := 2) (by simp) (.int .i64 0)) (j := 3) (by simp) (.int .u64 0)) (j := 4) (by simp) (.int .i64 0)) (j := 5) (by simp) (.int .i64 0)) (j := 6) (by simp) (.int .i64 0))
    replace HB := oH hs HB (by omega)
    clear hs
    clear yZ_0 yZ_1 yZ_2 yZ_3 yZ_4 yZ_5 yZ_6 yZ_z yZ_f0 yZ_f1 yZ_f2 yZ_f3 yZ_f4 yZ_f5 yZ_f6
    generalize ((((((w1.setCell ⟨w.heap.size, 0, none⟩ (.int .i64 0)).setCell ⟨w.heap.size, 1, none⟩ (.int .u64 0)).setCell ⟨w.heap.size, 2, none⟩ (.int .i64 0)).setCell ⟨w.heap.size, 3, none⟩ (.int .u64 0)).setCell ⟨w.heap.size, 4, none⟩ (.int .i64 0)).setCell ⟨w.heap.size, 5, none⟩ (.int .i64 0)).setCell ⟨w.heap.size, 6, none⟩ (.int .i64 0) = w2 at *
    simp only [List.set] at KZ
    obtain ⟨KN, hb3⟩ := alB w2 #[.int .i64 0, .int .i64 0, .int .i64 0, .int .i64 0, .int .i64 0] 112
    have hnN := HB.out.size
    have nzN_Z := KZ.out.lt
    replace HB := hT HB hb3
    replace KZ := hK KZ hb3
    clear hb3
    generalize w2.alloc (.cells #[.int .i64 0, .int .i64 0, .int .i64 0, .int .i64 0, .int .i64 0] 112) = w3 at *
    generalize w2.heap.size = bN at *
    have neN_Z : bN ≠ w.heap.size := by omega
    clear nzN_Z
    obtain ⟨yZ_0, yZ_1, yZ_2, yZ_3, yZ_4, yZ_5, yZ_6, yZ_z⟩ := blk7 KZ
    refine bodyPost_ret (v := .tuple #[.agg #[.int .i64 0, .int .u64 0, .int .i64 0, .int .u64 0, .int .i64 0, .int .i64 0, .int .i64 0], .int .i64 c]) (by simp [results, Tryz.results28, go_sem, yZ_0, yZ_1, yZ_2, yZ_3, yZ_4, yZ_5, yZ_6]) rfl ⟨rfl, HB.out⟩
end Go.Proofs.YtidelghgjibndaaGreat
namespace Go.Proofs.YtidelghgjibndaaGreat
set_option linter.unusedVariables false
open Go.RowKit
theorem pOk_iff {v : Int} : pOk v = true ↔ -2000000 ≤ v ∧ v ≤ 2000000 := by unfold pOk; rw [decide_eq_true_iff]
theorem det_pos {l : List Ms} (h : chkL l = 0) (hd : detN l ≠ 0) : 0 < detN l := by have := det_nonneg l (chk_w h); omega
theorem reachB_of {l : List Ms} (h : OkL l) (hd : 0 < detN l) {cx cy : Int} (h0 : pOk cx = true) (h1 : pOk cy = true) : ReachB cx cy (solX l) (solY l) (noiX l) (noiY l) (detN l) := by
  have a := pOk_iff.1 h0
  have b := pOk_iff.1 h1
  have s := sol_bd (nrm_bd h)
  have n := noi_bd h
  exact ⟨⟨a.1, a.2, b.1, b.2⟩, s.x, s.y, n.1, n.2, hd, s.det.2⟩
/-- reach of a list -/
theorem reachL_any {l : List Ms} (h : OkL l) (hd : 0 < detN l) {cx cy : Int} (h0 : pOk cx = true) (h1 : pOk cy = true) (w : World) :
    Calls Tryz.prog 31 #[.agg #[.int .i64 cx, .int .i64 cy], .agg #[.int .i64 (hiW (solX l)), .int .u64 (loW (solX l)), .int .i64 (hiW (solY l)), .int .u64 (loW (solY l)), .int .i64 (hiW (noiX l)), .int .u64 (loW (noiX l)), .int .i64 (hiW (noiY l)), .int .u64 (loW (noiY l)), .int .i64 ((detN l))]] w fun e w' => e = .returned (.tuple #[.int .i64 (reachF cx cy l).1.1, .int .i64 (reachF cx cy l).1.2, .int .i64 (reachF cx cy l).2]) ∧ Below w.heap.size w w' :=
  reach_any cx cy (solX l) (solY l) (noiX l) (noiY l) (detN l) w (reachB_of h hd h0 h1)
theorem pair_bad (x y d : Int) : (pairF x y d).2 = 0 ∨ pairF x y d = ((0, 0), 2) := by unfold pairF; split; exact .inl rfl; exact .inr rfl
theorem reach_bad (cx cy : Int) (l : List Ms) : (reachF cx cy l).2 = 0 ∨ reachF cx cy l = ((0, 0), 2) := pair_bad _ _ _
def boxV (b : BoxI) : Value := .agg #[.int .i64 b.cx, .int .i64 b.cy, .int .i64 b.x, .int .i64 b.y]
end Go.Proofs.YtidelghgjibndaaGreat
namespace Go.Proofs.YtidelghgjibndaaGreat
set_option linter.unusedVariables false
open Go.RowKit
/-- an exact solution with its noise -/
structure Ex where
  x : Int
  y : Int
  u : Int
  v : Int
  t : Int
def ex0 : Ex := ⟨0, 0, 0, 0, 0⟩
def nthE (l : List Ex) (i : Nat) : Ex := l.getD i ex0
theorem nthE_eq {l : List Ex} {i : Nat} (h : i < l.length) : nthE l i = l[i] := by
  unfold nthE
  rw [List.getD_eq_getElem?_getD, List.getElem?_eq_getElem h]
  rfl
def exC (l : List Ex) : List Value := l.flatMap fun m => [Value.int .i64 (hiW m.x), Value.int .u64 (loW m.x), Value.int .i64 (hiW m.y), Value.int .u64 (loW m.y), Value.int .i64 (hiW m.u), Value.int .u64 (loW m.u), Value.int .i64 (hiW m.v), Value.int .u64 (loW m.v), Value.int .i64 m.t]
theorem exC_append (l k : List Ex) : exC (l ++ k) = exC l ++ exC k := by unfold exC; rw [List.flatMap_append]
theorem exC_len (l : List Ex) : (exC l).length = l.length * 9 := by
  induction l with
  | nil => rfl
  | cons m r ih =>
    unfold exC at *
    rw [List.flatMap_cons, List.length_append, ih]
    simp
    omega
theorem exC_get : ∀ (l : List Ex) (i : Nat) (h : i < l.length), (exC l)[i * 9]? = some (.int .i64 (hiW l[i].x)) ∧ (exC l)[i * 9 + 1]? = some (.int .u64 (loW l[i].x)) ∧ (exC l)[i * 9 + 2]? = some (.int .i64 (hiW l[i].y)) ∧ (exC l)[i * 9 + 3]? = some (.int .u64 (loW l[i].y)) ∧ (exC l)[i * 9 + 4]? = some (.int .i64 (hiW l[i].u)) ∧ (exC l)[i * 9 + 5]? = some (.int .u64 (loW l[i].u)) ∧ (exC l)[i * 9 + 6]? = some (.int .i64 (hiW l[i].v)) ∧ (exC l)[i * 9 + 7]? = some (.int .u64 (loW l[i].v)) ∧ (exC l)[i * 9 + 8]? = some (.int .i64 l[i].t)
  | [], i, h => absurd h (by simp)
  | p :: l, 0, h => ⟨rfl, rfl, rfl, rfl, rfl, rfl, rfl, rfl, rfl⟩
  | p :: l, i + 1, h => by
    obtain ⟨a, b, c, d, e, f, g, h, k⟩ := exC_get l i (by simpa using h)
    unfold exC at *
    rw [List.flatMap_cons, show (i + 1) * 9 = i * 9 + 9 by omega]
    exact ⟨a, b, c, d, e, f, g, h, k⟩
/-- a slice of the call's own that holds these solutions -/
def OE (B : Nat) (w : World) (v : Value) (l : List Ex) : Prop := w.ownsRow B 88 9 v l.length (exC l)
theorem infoEx : (Tryz.prog.info? 88).map (fun i => (i.zero, i.size, i.bytes)) = some (some (.agg #[.int .i64 0, .int .u64 0, .int .i64 0, .int .u64 0, .int .i64 0, .int .u64 0, .int .i64 0, .int .u64 0, .int .i64 0]), 9, 72) := by kernel_rfl
theorem wpList_oe {ops : Array Oper} {rest : List Oper} {o : Oper} {a : Act} {Q : Exit → Act → World → Prop} (hgd : o.guard = none) (s x : Operand)
    (ho : o.op = .call { callee := .builtin .append, args := #[s, x], argTypes := #[84, 84] })
    (B : Nat) (v : Value) (l : List Ex) (hs : a.eval s = v) (w0 : World) (h : OE B w0 v l) (T : TypeId) (p : Ex) (c : Nat)
    (hx : a.eval x = .slice (some ⟨w0.heap.size, 0, none⟩) 1 c) (hl : l.length ≤ 100000) (hB : B ≤ w0.heap.size)
    (H : ∀ v' w', OE B w' v' (l ++ [p]) → (w0.alloc (.cells #[.int .i64 (hiW p.x), .int .u64 (loW p.x), .int .i64 (hiW p.y), .int .u64 (loW p.y), .int .i64 (hiW p.u), .int .u64 (loW p.u), .int .i64 (hiW p.v), .int .u64 (loW p.v), .int .i64 p.t] T)).grownBy w' v.ownBlock → (v'.ownBlock = v.ownBlock ∨ v'.ownBlock = some (w0.heap.size + 1)) → wpList Tryz.prog ops Q rest (a.put o.dst v') w') :
    wpList Tryz.prog ops Q (o :: rest) a (w0.alloc (.cells #[.int .i64 (hiW p.x), .int .u64 (loW p.x), .int .i64 (hiW p.y), .int .u64 (loW p.y), .int .i64 (hiW p.u), .int .u64 (loW p.u), .int .i64 (hiW p.v), .int .u64 (loW p.v), .int .i64 p.t] T)) := by
  obtain ⟨i0, hi, hz0, hz1, hz2⟩ := info_parts infoEx
  refine wpList_append_own_at _ hgd s x 84 ho B 88 i0 (.agg #[.int .i64 0, .int .u64 0, .int .i64 0, .int .u64 0, .int .i64 0, .int .u64 0, .int .i64 0, .int .u64 0, .int .i64 0]) 9 72 Tryz.underlying84 hi hz0 hz1 hz2 rfl (by decide) v l.length (exC l) hs (World.ownsRow.alloc h _) ⟨w0.heap.size, 0, none⟩ 1 c (exC [p]) hx (by rw [exC_len]; rfl) ?_ ?_ (by unfold maxLen; omega) (by omega) (by simp; omega) ?_
  · intro j u hu
    have hadd : (⟨w0.heap.size, 0, none⟩ : Addr).add j = ⟨w0.heap.size, j, none⟩ := by unfold Addr.add; split <;> simp_all
    rw [hadd, World.cell?_alloc_at _ _ _ _ (by rfl)]
    unfold exC at hu
    simpa using hu
  · intro u hu
    unfold exC at hu
    simp only [List.flatMap_cons, List.flatMap_nil, List.append_nil, List.mem_cons, List.not_mem_nil, or_false] at hu
    rcases hu with rfl | rfl | rfl | rfl | rfl | rfl | rfl | rfl | rfl <;> rfl
  · intro v' w' ho' hg _ hat
    refine H v' w' (by unfold OE; rw [List.length_append, exC_append]; exact ho') hg ?_
    simpa using hat
structure ExAt (l : List Ex) (g : Nat) (w : World) : Prop where
  lt : g < w.heap.size
  c0 : ∀ i, i < l.length → w.cell? ⟨g, i * 9, none⟩ = some (.int .i64 (hiW (nthE l i).x))
  c1 : ∀ i, i < l.length → w.cell? ⟨g, i * 9 + 1, none⟩ = some (.int .u64 (loW (nthE l i).x))
  c2 : ∀ i, i < l.length → w.cell? ⟨g, i * 9 + 2, none⟩ = some (.int .i64 (hiW (nthE l i).y))
  c3 : ∀ i, i < l.length → w.cell? ⟨g, i * 9 + 3, none⟩ = some (.int .u64 (loW (nthE l i).y))
  c4 : ∀ i, i < l.length → w.cell? ⟨g, i * 9 + 4, none⟩ = some (.int .i64 (hiW (nthE l i).u))
  c5 : ∀ i, i < l.length → w.cell? ⟨g, i * 9 + 5, none⟩ = some (.int .u64 (loW (nthE l i).u))
  c6 : ∀ i, i < l.length → w.cell? ⟨g, i * 9 + 6, none⟩ = some (.int .i64 (hiW (nthE l i).v))
  c7 : ∀ i, i < l.length → w.cell? ⟨g, i * 9 + 7, none⟩ = some (.int .u64 (loW (nthE l i).v))
  c8 : ∀ i, i < l.length → w.cell? ⟨g, i * 9 + 8, none⟩ = some (.int .i64 (nthE l i).t)
theorem ExAt.below {l : List Ex} {g : Nat} {w w' : World} (h : ExAt l g w) (hb : Below w.heap.size w w') : ExAt l g w' :=
  ⟨Nat.lt_of_lt_of_le h.lt hb.size, fun i hi => (hb.cell (p := ⟨g, i * 9, none⟩) h.lt).trans (h.c0 i hi), fun i hi => (hb.cell (p := ⟨g, i * 9 + 1, none⟩) h.lt).trans (h.c1 i hi), fun i hi => (hb.cell (p := ⟨g, i * 9 + 2, none⟩) h.lt).trans (h.c2 i hi), fun i hi => (hb.cell (p := ⟨g, i * 9 + 3, none⟩) h.lt).trans (h.c3 i hi), fun i hi => (hb.cell (p := ⟨g, i * 9 + 4, none⟩) h.lt).trans (h.c4 i hi), fun i hi => (hb.cell (p := ⟨g, i * 9 + 5, none⟩) h.lt).trans (h.c5 i hi), fun i hi => (hb.cell (p := ⟨g, i * 9 + 6, none⟩) h.lt).trans (h.c6 i hi), fun i hi => (hb.cell (p := ⟨g, i * 9 + 7, none⟩) h.lt).trans (h.c7 i hi), fun i hi => (hb.cell (p := ⟨g, i * 9 + 8, none⟩) h.lt).trans (h.c8 i hi)⟩
theorem oe_cases {B : Nat} {w : World} {v : Value} {l : List Ex} (h : OE B w v l) : (v = .slice none 0 0 ∧ l = []) ∨ ∃ g cap, v = .slice (some ⟨g, 0, none⟩) l.length cap ∧ l.length ≤ cap ∧ cap ≤ 9223372036854775807 ∧ ExAt l g w := by
  obtain ⟨h1, h2⟩ := h
  rcases h2 with ⟨rfl, hn⟩ | ⟨g, cap, cur, rfl, hb, hg, hc, hm, hs, ht⟩
  · exact .inl ⟨rfl, List.eq_nil_of_length_eq_zero hn⟩
  · have hlt : g < w.heap.size := (Array.getElem?_eq_some_iff.1 hg).1
    have hget : ∀ j, j < l.length * 9 → w.cell? ⟨g, j, none⟩ = (exC l)[j]? := fun j hj => by
      rw [← ht, List.getElem?_take, if_pos hj]
      unfold World.cell?
      rw [hg]
      simp
    unfold maxLen at hm
    refine .inr ⟨g, cap, rfl, hc, hm, ⟨hlt, fun i hi => ?_, fun i hi => ?_, fun i hi => ?_, fun i hi => ?_, fun i hi => ?_, fun i hi => ?_, fun i hi => ?_, fun i hi => ?_, fun i hi => ?_⟩⟩
    · rw [hget _ (by omega), nthE_eq hi]; exact (exC_get l i hi).1
    · rw [hget _ (by omega), nthE_eq hi]; exact (exC_get l i hi).2.1
    · rw [hget _ (by omega), nthE_eq hi]; exact (exC_get l i hi).2.2.1
    · rw [hget _ (by omega), nthE_eq hi]; exact (exC_get l i hi).2.2.2.1
    · rw [hget _ (by omega), nthE_eq hi]; exact (exC_get l i hi).2.2.2.2.1
    · rw [hget _ (by omega), nthE_eq hi]; exact (exC_get l i hi).2.2.2.2.2.1
    · rw [hget _ (by omega), nthE_eq hi]; exact (exC_get l i hi).2.2.2.2.2.2.1
    · rw [hget _ (by omega), nthE_eq hi]; exact (exC_get l i hi).2.2.2.2.2.2.2.1
    · rw [hget _ (by omega), nthE_eq hi]; exact (exC_get l i hi).2.2.2.2.2.2.2.2
theorem oe_form {B : Nat} {w : World} {v : Value} {l : List Ex} (h : OE B w v l) : ∃ p cap, v = .slice p l.length cap := by
  rcases oe_cases h with ⟨rfl, rfl⟩ | ⟨g, cap, rfl, _⟩
  · exact ⟨none, 0, rfl⟩
  · exact ⟨_, _, rfl⟩
theorem oe_at {B : Nat} {w : World} {p : Option Addr} {cap : Nat} {l : List Ex} (h : OE B w (.slice p l.length cap) l) {k : Nat} (q : k < l.length) : ∃ g, p = some ⟨g, 0, none⟩ ∧ l.length ≤ cap ∧ cap ≤ 9223372036854775807 ∧ ExAt l g w := by
  rcases oe_cases h with ⟨_, rfl⟩ | ⟨g, cap', e, h2, h3, h4⟩
  · exact absurd q (by simp)
  · injection e with e1 e2 e3
    subst e3
    exact ⟨g, e1, h2, h3, h4⟩
theorem OE.below {B : Nat} {w w' : World} {v : Value} {l : List Ex} (h : OE B w v l) (hb : Below w.heap.size w w') : OE B w' v l := by
  refine World.ownsRow.kept h (grown_of_below hb) ?_
  cases v.ownBlock <;> simp
theorem max_snoc (f : Int → Int) (zs : List Int) (z : Int) : maxF f (zs ++ [z]) = max (maxF f zs) (f z) := by
  induction zs with
  | nil => simp only [List.nil_append, maxF]; omega
  | cons a r ih => simp only [List.cons_append, maxF, ih]; omega
end Go.Proofs.YtidelghgjibndaaGreat
