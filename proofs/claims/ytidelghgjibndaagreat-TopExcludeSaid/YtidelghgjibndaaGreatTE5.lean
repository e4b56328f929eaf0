/-
  Walks and laws of the layers below, gathered from several texts.
-/
import Derived.Test.YtidelghgjibndaaGreatTE4
namespace Go.Proofs.YtidelghgjibndaaGreat
set_option linter.unusedVariables false
open Go.RowKit
theorem far9 {m b c : Nat} {W : World} (h : m ≤ c) (hb : b < m) {v0 v1 v2 v3 v4 v5 v6 v7 v8 : Value} (i : Nat) : (((((((((W.setCell ⟨c, 0, none⟩ v0).setCell ⟨c, 1, none⟩ v1).setCell ⟨c, 2, none⟩ v2).setCell ⟨c, 3, none⟩ v3).setCell ⟨c, 4, none⟩ v4).setCell ⟨c, 5, none⟩ v5).setCell ⟨c, 6, none⟩ v6).setCell ⟨c, 7, none⟩ v7).setCell ⟨c, 8, none⟩ v8).cell? ⟨b, i, none⟩ = W.cell? ⟨b, i, none⟩ :=
  have hne : c ≠ b := by omega
  (((((((((World.cell?_setCell_far _ _ _ _ hne).trans (World.cell?_setCell_far _ _ _ _ hne)).trans (World.cell?_setCell_far _ _ _ _ hne)).trans (World.cell?_setCell_far _ _ _ _ hne)).trans (World.cell?_setCell_far _ _ _ _ hne)).trans (World.cell?_setCell_far _ _ _ _ hne)).trans (World.cell?_setCell_far _ _ _ _ hne)).trans (World.cell?_setCell_far _ _ _ _ hne)).trans (World.cell?_setCell_far _ _ _ _ hne))
/-- a way out that is the normal one alone -/
def OnlyN (R : Act → World → Prop) : Exit → Act → World → Prop
  | .normal, a, w => R a w
  | _, _, _ => False
theorem OnlyN.mk {R : Act → World → Prop} {a : Act} {w : World} (h : R a w) : OnlyN R .normal a w := h
theorem OnlyN.imp {R : Act → World → Prop} {Q : Exit → Act → World → Prop} (k : ∀ a w, R a w → Q .normal a w) : ∀ (e : Exit) (a : Act) (w : World), OnlyN R e a w → Q e a w := fun e a w h => by
  cases e <;> first | exact k a w h | exact (h : False).elim
/-- all the ways through a region that draws its order, joined: their states are alike but for a block's number -/
theorem wp_join {P : Program} {c : Code} {Q : Exit → Act → World → Prop} {a : Act} {w : World} {F : Nat → Act} {R : Nat → World → Prop} (h : c.wp P (OnlyN fun a' w' => ∃ b, a' = F b ∧ R b w') a w) (k : ∀ b w', R b w' → Q .normal (F b) w') : c.wp P Q a w :=
  Code.wp_mono (OnlyN.imp fun a' w' ⟨b, ha, hr⟩ => by subst ha; exact k b w' hr) h
theorem wp_join0 {P : Program} {c : Code} {Q : Exit → Act → World → Prop} {a : Act} {w : World} {A : Act} {R : World → Prop} (h : c.wp P (OnlyN fun a' w' => a' = A ∧ R w') a w) (k : ∀ w', R w' → Q .normal A w') : c.wp P Q a w :=
  Code.wp_mono (OnlyN.imp fun a' w' ⟨ha, hr⟩ => by subst ha; exact k w' hr) h
theorem abs_anyZ (x : Int) (w : World) (h0 : -9223372036854775807 ≤ x) (h1 : x ≤ 9223372036854775807) :
    Calls Tryz.prog 43 #[.int .i64 x] w fun e w' => e = .returned (.int .i64 (absZ x)) ∧ Below w.heap.size w w' := regrown_drewN (B := 0) (w' := w) (abs_any x w h0 h1)
def nxF (l : List Ms) (m : Ms) : Int := m.w * absZ (nYY l * m.a - nXY l * m.b) * m.d
def nyF (l : List Ms) (m : Ms) : Int := m.w * absZ (nXX l * m.b - nXY l * m.a) * m.d
theorem noiX_is (l : List Ms) : noiX l = sumL (nxF l) l := rfl
theorem noiY_is (l : List Ms) : noiY l = sumL (nyF l) l := rfl
/-- one measurement of the noise along an axis -/
structure SvHalf (u v a b : Int) (m : Ms) (U U1 : Int) : Prop where
  s1 : IntKind.i64.wrap (u * a) = u * a
  s2 : IntKind.i64.wrap (v * b) = v * b
  s3 : IntKind.i64.wrap (u * a - v * b) = u * a - v * b
  s4 : IntKind.i64.wrap (m.w * absZ (u * a - v * b)) = m.w * absZ (u * a - v * b)
  ab : ∀ w, Calls Tryz.prog 43 #[.int .i64 (u * a - v * b)] w fun e w' => e = .returned (.int .i64 (absZ (u * a - v * b))) ∧ Below w.heap.size w w'
  mu : ∀ w, Calls Tryz.prog 60 #[.int .i64 (m.w * absZ (u * a - v * b)), .int .i64 m.d] w fun e w' => e = .returned (wv (m.w * absZ (u * a - v * b) * m.d)) ∧ Below w.heap.size w w'
  pl : ∀ w, Calls Tryz.prog 59 #[wv U, wv (m.w * absZ (u * a - v * b) * m.d)] w fun e w' => e = .returned (wv U1) ∧ Below w.heap.size w w'
theorem sv_half {m : Ms} (o : OkM m) {u v a b U U1 : Int} (hu0 : -16777216 ≤ u) (hu : u ≤ 16777216) (hv0 : -16777216 ≤ v) (hv : v ≤ 16777216) (ha0 : -256 ≤ a) (ha : a ≤ 256) (hb0 : -256 ≤ b) (hb : b ≤ 256)
    (hU0 : 0 ≤ U) (hU : U ≤ 9444732965739290427392) (e : U1 = U + m.w * absZ (u * a - v * b) * m.d) : SvHalf u v a b m U U1 := by
  obtain ⟨t0, t1, t2, t3, t4, t5⟩ := noi_term o hu0 hu hv0 hv ha0 ha hb0 hb
  have p1 := mulb (X := 16777216) (Y := 256) (by omega) hu0 hu ha0 ha
  have p2 := mulb (X := 16777216) (Y := 256) (by omega) hv0 hv hb0 hb
  have d0 := o.d0
  have d1 := o.d1
  refine ⟨IntWalk.i64_in _ (by omega), IntWalk.i64_in _ (by omega), IntWalk.i64_in _ (by omega), IntWalk.i64_in _ (by omega), fun w => abs_anyZ _ w (by omega) (by omega), fun w => wmul_any _ _ w (by omega) (by omega) (by omega) (by omega), fun w => ?_⟩
  rw [e]
  exact plus_any _ _ w ⟨by omega, by omega⟩ ⟨by omega, by omega⟩ ⟨by omega, by omega⟩
theorem noi_part {l : List Ms} (h : OkL l) (k : Nat) : (0 ≤ sumL (nxF l) (l.take k) ∧ sumL (nxF l) (l.take k) ≤ 9444732965739290427392) ∧ 0 ≤ sumL (nyF l) (l.take k) ∧ sumL (nyF l) (l.take k) ≤ 9444732965739290427392 := by
  obtain ⟨⟨a0, a1⟩, ⟨b0, b1⟩, ⟨c0, c1⟩, _, _⟩ := nrm_bd h
  have o := h.take k
  have f1 : ∀ m ∈ l.take k, 0 ≤ nxF l m ∧ nxF l m ≤ 590295810358705651712 := fun m hm => by
    have q := o.ok m hm
    obtain ⟨_, _, _, _, t4, t5⟩ := noi_term q c0 c1 b0 b1 q.a0 q.a1 q.b0 q.b1
    exact ⟨t4, t5⟩
  have f2 : ∀ m ∈ l.take k, 0 ≤ nyF l m ∧ nyF l m ≤ 590295810358705651712 := fun m hm => by
    have q := o.ok m hm
    obtain ⟨_, _, _, _, t4, t5⟩ := noi_term q a0 a1 b0 b1 q.b0 q.b1 q.a0 q.a1
    exact ⟨t4, t5⟩
  have s1 := o.sum (nxF l) 590295810358705651712 (by omega) fun m hm => by have := f1 m hm; omega
  have s2 := o.sum (nyF l) 590295810358705651712 (by omega) fun m hm => by have := f2 m hm; omega
  have n1 := sum_nonneg (nxF l) (l.take k) fun m hm => (f1 m hm).1
  have n2 := sum_nonneg (nyF l) (l.take k) fun m hm => (f2 m hm).1
  omega
theorem noi_bd {l : List Ms} (h : OkL l) : (0 ≤ noiX l ∧ noiX l ≤ 9444732965739290427392) ∧ 0 ≤ noiY l ∧ noiY l ≤ 9444732965739290427392 := by
  have := noi_part h l.length
  rw [List.take_length] at this
  exact this
theorem sv_step {l : List Ms} (h : OkL l) {k : Nat} (q : k < l.length) :
    SvHalf (nYY l) (nXY l) (nth l k).a (nth l k).b (nth l k) (sumL (nxF l) (l.take k)) (sumL (nxF l) (l.take (k + 1))) ∧ SvHalf (nXX l) (nXY l) (nth l k).b (nth l k).a (nth l k) (sumL (nyF l) (l.take k)) (sumL (nyF l) (l.take (k + 1))) := by
  obtain ⟨⟨a0, a1⟩, ⟨b0, b1⟩, ⟨c0, c1⟩, _, _⟩ := nrm_bd h
  have o := h.ok _ (nth_mem q)
  have N := noi_part h k
  exact ⟨sv_half o c0 c1 b0 b1 o.a0 o.a1 o.b0 o.b1 N.1.1 N.1.2 (sum_take _ q), sv_half o a0 a1 b0 b1 o.b0 o.b1 o.a0 o.a1 N.2.1 N.2.2 (sum_take _ q)⟩
def SvR (l : List Ms) (p : Option Addr) (cap : Nat) (w : World) (bn bs : Nat) (u : Value) (wr : World) : Prop := ∃ k : Nat, u = .int .i64 k ∧ k ≤ l.length ∧ Hid (Below w.heap.size w wr) ∧ Hid (Blk [.int .i64 (nXX l), .int .i64 (nXY l), .int .i64 (nYY l), .int .i64 (nXZ l), .int .i64 (nYZ l)] bn wr) ∧ Hid (Blk [.int .i64 (hiW (solX l)), .int .u64 (loW (solX l)), .int .i64 (hiW (solY l)), .int .u64 (loW (solY l)), .int .i64 (hiW (sumL (nxF l) (l.take k))), .int .u64 (loW (sumL (nxF l) (l.take k))), .int .i64 (hiW (sumL (nyF l) (l.take k))), .int .u64 (loW (sumL (nyF l) (l.take k))), .int .i64 ((detN l))] bs wr) ∧ Hid (Blk [.int .i64 0, .int .u64 0, .int .i64 0, .int .u64 0, .int .i64 0, .int .u64 0, .int .i64 0, .int .u64 0, .int .i64 0] w.heap.size wr)
set_option maxHeartbeats 40000000 in
set_option maxRecDepth 100000 in
theorem solve_any (l : List Ms) (v : Value) (w : World) (h : LstAt l v w) (hc : chkL l = 0) :
    Calls Tryz.prog 30 #[v] w fun e w' => e = .returned (.agg #[.int .i64 (hiW (solX l)), .int .u64 (loW (solX l)), .int .i64 (hiW (solY l)), .int .u64 (loW (solY l)), .int .i64 (hiW (noiX l)), .int .u64 (loW (noiX l)), .int .i64 (hiW (noiY l)), .int .u64 (loW (noiY l)), .int .i64 ((detN l))]) ∧ Below w.heap.size w w' := by
  obtain ⟨p, cap, rfl⟩ := lst_form h
  have OL := Lib.hid (okL_of hc)
  obtain ⟨⟨a0, a1⟩, ⟨b0, b1⟩, ⟨c0, c1⟩, ⟨d0, d1⟩, ⟨e0, e1⟩⟩ := nrm_bd OL.out
  obtain ⟨⟨dt0, dt1⟩, ⟨sx0, sx1⟩, ⟨sy0, sy1⟩⟩ := sol_bd (nrm_bd OL.out)
  have NO := Lib.hid fun w h => normal_any l (.slice p l.length cap) w h hc
  have P1 := mulb (X := 16777216) (Y := 16777216) (by omega) a0 a1 c0 c1
  have P2 := mulb (X := 16777216) (Y := 16777216) (by omega) b0 b1 b0 b1
  have LX := Lib.hid fun w => integrity_less (nYY l) (nXZ l) (nXY l) (nYZ l) w ⟨by omega, by omega⟩ ⟨by omega, by omega⟩ ⟨by omega, by omega⟩ ⟨by omega, by omega⟩ (show FitW (solX l) from ⟨by omega, by omega⟩)
  have LY := Lib.hid fun w => integrity_less (nXX l) (nYZ l) (nXY l) (nXZ l) w ⟨by omega, by omega⟩ ⟨by omega, by omega⟩ ⟨by omega, by omega⟩ ⟨by omega, by omega⟩ (show FitW (solY l) from ⟨by omega, by omega⟩)
  have q1 : IntKind.i64.wrap (nXX l * nYY l) = nXX l * nYY l := IntWalk.i64_in _ (by omega)
  have q2 : IntKind.i64.wrap (nXY l * nXY l) = nXY l * nXY l := IntWalk.i64_in _ (by omega)
  have q3 : IntKind.i64.wrap (nXX l * nYY l - nXY l * nXY l) = detN l := IntWalk.i64_in _ (by unfold detN at dt0 dt1; omega)
  have HX : Hid (solX l = nYY l * nXZ l - nXY l * nYZ l) := Lib.hid rfl
  have HY : Hid (solY l = nXX l * nYZ l - nXY l * nXZ l) := Lib.hid rfl
  rw [← HX.out] at LX
  rw [← HY.out] at LY
  clear hc a0 a1 b0 b1 c0 c1 d0 d1 e0 e1 dt0 dt1 sx0 sx1 sy0 sy1 P1 P2 HX HY
  obtain ⟨A, EA⟩ : ∃ x, nXX l = x := ⟨_, rfl⟩
  obtain ⟨B, EB⟩ : ∃ x, nXY l = x := ⟨_, rfl⟩
  obtain ⟨C, EC⟩ : ∃ x, nYY l = x := ⟨_, rfl⟩
  obtain ⟨D, ED⟩ : ∃ x, nXZ l = x := ⟨_, rfl⟩
  obtain ⟨E, EE⟩ : ∃ x, nYZ l = x := ⟨_, rfl⟩
  obtain ⟨X, EX⟩ : ∃ x, solX l = x := ⟨_, rfl⟩
  obtain ⟨Y, EY⟩ : ∃ x, solY l = x := ⟨_, rfl⟩
  obtain ⟨T, ET⟩ : ∃ x, detN l = x := ⟨_, rfl⟩
  rw [EA, EB, EC, ED, EE] at NO
  rw [EC, ED, EB, EE, EX] at LX
  rw [EA, EE, EB, ED, EY] at LY
  rw [EA, EC] at q1
  rw [EB] at q2
  rw [EA, EB, EC, ET] at q3
  have HA := Lib.hid EA
  have HBB := Lib.hid EB
  have HC := Lib.hid EC
  have HD := Lib.hid ED
  have HE := Lib.hid EE
  have HX := Lib.hid EX
  have HY := Lib.hid EY
  have HT := Lib.hid ET
  clear EA EB EC ED EE EX EY ET
  unfold wv at LX LY
  have H0 := Lib.hid h
  have KZ := Lib.hid (Blk.of (vs := #[.int .i64 0, .int .u64 0, .int .i64 0, .int .u64 0, .int .i64 0, .int .u64 0, .int .i64 0, .int .u64 0, .int .i64 0]) (t := 88) (w := w) (b := w.heap.size) (by simp))
  have HB := Lib.hid ((Below.refl w.heap.size w).alloc (by simp; try omega) (.cells #[.int .i64 0, .int .u64 0, .int .i64 0, .int .u64 0, .int .i64 0, .int .u64 0, .int .i64 0, .int .u64 0, .int .i64 0] 88))
  go_enter Tryz.func30, Tryz.ntmps30
  clear h
  go_wp2_with fail
  generalize w.alloc (.cells #[.int .i64 0, .int .u64 0, .int .i64 0, .int .u64 0, .int .i64 0, .int .u64 0, .int .i64 0, .int .u64 0, .int .i64 0] 88) = w0 at *
  refine (NO.out _ (H0.out.below HB.out)).mono ?_
  rintro e1 w1 ⟨rfl, hb1⟩
  replace HB := Lib.hid (HB.out.trans (hb1.mono HB.out.size))
  replace KZ := Lib.hid (KZ.out.below hb1)
  clear hb1
  go_wp2_with fail
  have KN := Lib.hid (Blk.of (vs := #[.int .i64 A, .int .i64 B, .int .i64 C, .int .i64 D, .int .i64 E]) (t := 112) (w := w1) (b := w1.heap.size) rfl)
  have hb2 : Below w1.heap.size w1 (w1.alloc (.cells #[.int .i64 A, .int .i64 B, .int .i64 C, .int .i64 D, .int .i64 E] 112)) := (Below.refl _ _).alloc (Nat.le_refl _) _
  have hnN := HB.out.size
  have nzN_Z := KZ.out.lt
  replace HB := Lib.hid (HB.out.trans (hb2.mono HB.out.size))
  replace KZ := Lib.hid (KZ.out.below hb2)
  clear hb2
  generalize w1.alloc (.cells #[.int .i64 A, .int .i64 B, .int .i64 C, .int .i64 D, .int .i64 E] 112) = w2 at *
  generalize w1.heap.size = bN at *
  have neN_Z : bN ≠ w.heap.size := by omega
  clear nzN_Z
  have BD := Lib.hid (show Below w2.heap.size w2 w2.drew from ⟨rfl, rfl, rfl, Nat.le_refl _, fun _ _ => rfl⟩)
  have BD2 := Lib.hid (below_drew_alloc w2 (.cells #[.int .i64 0, .int .u64 0, .int .i64 0, .int .u64 0, .int .i64 0, .int .u64 0, .int .i64 0, .int .u64 0, .int .i64 0] 88))
  have DLX := Lib.hid fun W (h : Below w2.heap.size w2 W) => (LX.out W).mono fun e w' ⟨h1, h2⟩ => show _ ∧ Below w2.heap.size w2 w' ∧ Below W.heap.size W w' from ⟨h1, h.trans (h2.mono h.size), h2⟩
  have DLY := Lib.hid fun W (h : Below w2.heap.size w2 W) => (LY.out W).mono fun e w' ⟨h1, h2⟩ => show _ ∧ Below w2.heap.size w2 w' ∧ Below W.heap.size W w' from ⟨h1, h.trans (h2.mono h.size), h2⟩
  have yN := KN.out
  have yN_0 := yN.c 0 _ rfl
  have yN_1 := yN.c 1 _ rfl
  have yN_2 := yN.c 2 _ rfl
  have yN_3 := yN.c 3 _ rfl
  have yN_4 := yN.c 4 _ rfl
  have yN_z := yN.lt
  clear yN
  apply wp_join (R := fun b w' => w.heap.size ≤ b ∧ b ≠ w.heap.size ∧ b ≠ bN ∧ Hid (Below w.heap.size w w') ∧ Hid (Blk [.int .i64 (hiW X), .int .u64 (loW X), .int .i64 (hiW Y), .int .u64 (loW Y), .int .i64 0, .int .u64 0, .int .i64 0, .int .u64 0, .int .i64 T] b w') ∧ Hid (Blk [.int .i64 0, .int .u64 0, .int .i64 0, .int .u64 0, .int .i64 0, .int .u64 0, .int .i64 0, .int .u64 0, .int .i64 0] w.heap.size w') ∧ Hid (Blk [.int .i64 A, .int .i64 B, .int .i64 C, .int .i64 D, .int .i64 E] bN w'))
  · go_region_held3 (fun w' => w'.cell? ⟨bN, 0, none⟩ = some (.int .i64 A) ∧ w'.cell? ⟨bN, 1, none⟩ = some (.int .i64 B) ∧ w'.cell? ⟨bN, 2, none⟩ = some (.int .i64 C) ∧ w'.cell? ⟨bN, 3, none⟩ = some (.int .i64 D) ∧ w'.cell? ⟨bN, 4, none⟩ = some (.int .i64 E)) (first | (refine ⟨?_, ?_, ?_, ?_, ?_⟩ <;> first | with_reducible assumption | (rw [far9 KV.out.1 yN_z]; with_reducible assumption)) | go_keep)
      (first
        | (go_at_call 58; with_reducible refine Calls.mono (DLX.out _ (by first | with_reducible exact BD.out | with_reducible exact BD2.out | with_reducible exact HX.out | with_reducible exact HX.out.alloc HX.out.size _)) ?_; rintro e9 w9 ⟨rfl, hb9, hc9⟩; have pN := KN.out.below hb9; have qN0 := pN.c 0 _ rfl; have qN1 := pN.c 1 _ rfl; have qN2 := pN.c 2 _ rfl; have qN3 := pN.c 3 _ rfl; have qN4 := pN.c 4 _ rfl; clear pN; (first | (with_reducible have KV := Lib.hid (kv_drew (vs := #[.int .i64 0, .int .u64 0, .int .i64 0, .int .u64 0, .int .i64 0, .int .u64 0, .int .i64 0, .int .u64 0, .int .i64 0]) (t := 88) hc9); have pV := KV.out.2; have v0 := pV.c 0 _ rfl; have vf0 := pV.f 0 _ rfl; have v1 := pV.c 1 _ rfl; have vf1 := pV.f 1 _ rfl; have v2 := pV.c 2 _ rfl; have vf2 := pV.f 2 _ rfl; have v3 := pV.c 3 _ rfl; have vf3 := pV.f 3 _ rfl; have v4 := pV.c 4 _ rfl; have vf4 := pV.f 4 _ rfl; have v5 := pV.c 5 _ rfl; have vf5 := pV.f 5 _ rfl; have v6 := pV.c 6 _ rfl; have vf6 := pV.f 6 _ rfl; have v7 := pV.c 7 _ rfl; have vf7 := pV.f 7 _ rfl; have v8 := pV.c 8 _ rfl; have vf8 := pV.f 8 _ rfl; have v9 := pV.lt; clear pV) | (with_reducible have KV := Lib.hid (kv_new (vs := #[.int .i64 0, .int .u64 0, .int .i64 0, .int .u64 0, .int .i64 0, .int .u64 0, .int .i64 0, .int .u64 0, .int .i64 0]) (t := 88) HX.out hc9); have pV := KV.out.2; have v0 := pV.c 0 _ rfl; have vf0 := pV.f 0 _ rfl; have v1 := pV.c 1 _ rfl; have vf1 := pV.f 1 _ rfl; have v2 := pV.c 2 _ rfl; have vf2 := pV.f 2 _ rfl; have v3 := pV.c 3 _ rfl; have vf3 := pV.f 3 _ rfl; have v4 := pV.c 4 _ rfl; have vf4 := pV.f 4 _ rfl; have v5 := pV.c 5 _ rfl; have vf5 := pV.f 5 _ rfl; have v6 := pV.c 6 _ rfl; have vf6 := pV.f 6 _ rfl; have v7 := pV.c 7 _ rfl; have vf7 := pV.f 7 _ rfl; have v8 := pV.c 8 _ rfl; have vf8 := pV.f 8 _ rfl; have v9 := pV.lt; clear pV) | (with_reducible have KV := Lib.hid (kv_old KV.out hc9); have pV := KV.out.2; have v0 := pV.c 0 _ rfl; have vf0 := pV.f 0 _ rfl; have v1 := pV.c 1 _ rfl; have vf1 := pV.f 1 _ rfl; have v2 := pV.c 2 _ rfl; have vf2 := pV.f 2 _ rfl; have v3 := pV.c 3 _ rfl; have vf3 := pV.f 3 _ rfl; have v4 := pV.c 4 _ rfl; have vf4 := pV.f 4 _ rfl; have v5 := pV.c 5 _ rfl; have vf5 := pV.f 5 _ rfl; have v6 := pV.c 6 _ rfl; have vf6 := pV.f 6 _ rfl; have v7 := pV.c 7 _ rfl; have vf7 := pV.f 7 _ rfl; have v8 := pV.c 8 _ rfl; have vf8 := pV.f 8 _ rfl; have v9 := pV.lt; clear pV) | skip); have HX := Lib.hid hb9; clear hb9 hc9)
        | (go_at_call 58; with_reducible refine Calls.mono (DLY.out _ (by first | with_reducible exact BD.out | with_reducible exact BD2.out | with_reducible exact HX.out | with_reducible exact HX.out.alloc HX.out.size _)) ?_; rintro e9 w9 ⟨rfl, hb9, hc9⟩; have pN := KN.out.below hb9; have qN0 := pN.c 0 _ rfl; have qN1 := pN.c 1 _ rfl; have qN2 := pN.c 2 _ rfl; have qN3 := pN.c 3 _ rfl; have qN4 := pN.c 4 _ rfl; clear pN; (first | (with_reducible have KV := Lib.hid (kv_drew (vs := #[.int .i64 0, .int .u64 0, .int .i64 0, .int .u64 0, .int .i64 0, .int .u64 0, .int .i64 0, .int .u64 0, .int .i64 0]) (t := 88) hc9); have pV := KV.out.2; have v0 := pV.c 0 _ rfl; have vf0 := pV.f 0 _ rfl; have v1 := pV.c 1 _ rfl; have vf1 := pV.f 1 _ rfl; have v2 := pV.c 2 _ rfl; have vf2 := pV.f 2 _ rfl; have v3 := pV.c 3 _ rfl; have vf3 := pV.f 3 _ rfl; have v4 := pV.c 4 _ rfl; have vf4 := pV.f 4 _ rfl; have v5 := pV.c 5 _ rfl; have vf5 := pV.f 5 _ rfl; have v6 := pV.c 6 _ rfl; have vf6 := pV.f 6 _ rfl; have v7 := pV.c 7 _ rfl; have vf7 := pV.f 7 _ rfl; have v8 := pV.c 8 _ rfl; have vf8 := pV.f 8 _ rfl; have v9 := pV.lt; clear pV) | (with_reducible have KV := Lib.hid (kv_new (vs := #[.int .i64 0, .int .u64 0, .int .i64 0, .int .u64 0, .int .i64 0, .int .u64 0, .int .i64 0, .int .u64 0, .int .i64 0]) (t := 88) HX.out hc9); have pV := KV.out.2; have v0 := pV.c 0 _ rfl; have vf0 := pV.f 0 _ rfl; have v1 := pV.c 1 _ rfl; have vf1 := pV.f 1 _ rfl; have v2 := pV.c 2 _ rfl; have vf2 := pV.f 2 _ rfl; have v3 := pV.c 3 _ rfl; have vf3 := pV.f 3 _ rfl; have v4 := pV.c 4 _ rfl; have vf4 := pV.f 4 _ rfl; have v5 := pV.c 5 _ rfl; have vf5 := pV.f 5 _ rfl; have v6 := pV.c 6 _ rfl; have vf6 := pV.f 6 _ rfl; have v7 := pV.c 7 _ rfl; have vf7 := pV.f 7 _ rfl; have v8 := pV.c 8 _ rfl; have vf8 := pV.f 8 _ rfl; have v9 := pV.lt; clear pV) | (with_reducible have KV := Lib.hid (kv_old KV.out hc9); have pV := KV.out.2; have v0 := pV.c 0 _ rfl; have vf0 := pV.f 0 _ rfl; have v1 := pV.c 1 _ rfl; have vf1 := pV.f 1 _ rfl; have v2 := pV.c 2 _ rfl; have vf2 := pV.f 2 _ rfl; have v3 := pV.c 3 _ rfl; have vf3 := pV.f 3 _ rfl; have v4 := pV.c 4 _ rfl; have vf4 := pV.f 4 _ rfl; have v5 := pV.c 5 _ rfl; have vf5 := pV.f 5 _ rfl; have v6 := pV.c 6 _ rfl; have vf6 := pV.f 6 _ rfl; have v7 := pV.c 7 _ rfl; have vf7 := pV.f 7 _ rfl; have v8 := pV.c 8 _ rfl; have vf8 := pV.f 8 _ rfl; have v9 := pV.lt; clear pV) | skip); have HX := Lib.hid hb9; clear hb9 hc9))
    all_goals
      first
        | (have FN := kv_set9 (.int .i64 (hiW X)) (.int .u64 (loW X)) (.int .i64 (hiW Y)) (.int .u64 (loW Y)) (.int .i64 0) (.int .u64 0) (.int .i64 0) (.int .u64 0) (.int .i64 T) KV.out HX.out; have FB := Lib.hid FN.1; have KS := Lib.hid FN.2.1; have n0S := FN.2.2; clear FN; generalize World.setCell (World.setCell (World.setCell (World.setCell (World.setCell (World.setCell (World.setCell (World.setCell (World.setCell _ _ (.int .i64 (hiW X))) _ (.int .u64 (loW X))) _ (.int .i64 (hiW Y))) _ (.int .u64 (loW Y))) _ (.int .i64 0)) _ (.int .u64 0)) _ (.int .i64 0)) _ (.int .u64 0)) _ (.int .i64 T) = w3 at *)
        | (have FN := kv_putn (vs := #[.int .i64 (hiW X), .int .u64 (loW X), .int .i64 (hiW Y), .int .u64 (loW Y), .int .i64 0, .int .u64 0, .int .i64 0, .int .u64 0, .int .i64 T]) (t := 88) HX.out; have FB := Lib.hid FN.1; have KS := Lib.hid FN.2.1; have n0S := FN.2.2; clear FN; generalize (World.alloc _ (.cells #[.int .i64 (hiW X), .int .u64 (loW X), .int .i64 (hiW Y), .int .u64 (loW Y), .int .i64 0, .int .u64 0, .int .i64 0, .int .u64 0, .int .i64 T] 88)) = w3 at *)
      have nS := Nat.le_trans HB.out.size n0S
      have neS_Z := Nat.ne_of_gt (Nat.lt_of_lt_of_le KZ.out.lt n0S)
      have neS_N := Nat.ne_of_gt (Nat.lt_of_lt_of_le KN.out.lt n0S)
      replace HB := Lib.hid (HB.out.trans (FB.out.mono HB.out.size))
      replace KZ := Lib.hid (KZ.out.below FB.out)
      replace KN := Lib.hid (KN.out.below FB.out)
      obtain ⟨bS, hbS⟩ := ex_blk KS
      rw [← hbS] at KS nS neS_Z neS_N ⊢
      refine OnlyN.mk ⟨bS, rfl, ?_⟩
      with_reducible exact ⟨nS, neS_Z, neS_N, HB, KS, KZ, KN⟩
  clear BD BD2 DLX DLY yN_0 yN_1 yN_2 yN_3 yN_4 yN_z
  rintro bS w3 ⟨nS, neS_Z, neS_N, HB2, KS, KZ2, KN2⟩
  replace HB := HB2
  clear HB2
  replace KZ := KZ2
  clear KZ2
  replace KN := KN2
  clear KN2
  go_wp2
  go_loopw [47] (SvR l p cap w bN bS) (fun i _ => l.length - (intOf i).toNat)
  case atStart => exact ⟨0, rfl, Nat.zero_le _, HB, by rw [HA.out, HBB.out, HC.out, HD.out, HE.out]; exact KN, by rw [List.take_zero, HX.out, HY.out, HT.out]; exact KS, KZ⟩
  case round =>
    clear HB KN KS KZ
    obtain ⟨k, rfl, hk, HB, KN, KS, KZ⟩ := hrel
    rw [HA.out, HBB.out, HC.out, HD.out, HE.out] at KN
    rw [HX.out, HY.out, HT.out] at KS
    by_cases q : k < l.length
    · have q' : decide (k < l.length) = true := by simpa using q
      obtain ⟨b, o, rfl, hcap, hmax, MM⟩ := lst_at (H0.out.below HB.out) q
      have c0 := MM.c0 k q
      have c1 := MM.c1 k q
      have c2 := MM.c2 k q
      have c3 := MM.c3 k q
      have c4 := MM.c4 k q
      have c5 := MM.c5 k q
      have clt := MM.lt
      obtain ⟨S1, S2⟩ := sv_step OL.out q
      clear MM
      rw [HC.out, HBB.out] at S1
      rw [HA.out, HBB.out] at S2
      generalize nth l k = m at *
      generalize sumL (nxF l) (l.take k) = U at *
      generalize sumL (nyF l) (l.take k) = V at *
      obtain ⟨U1, EU⟩ : ∃ x, sumL (nxF l) (l.take (k + 1)) = x := ⟨_, rfl⟩
      obtain ⟨V1, EV⟩ : ∃ x, sumL (nyF l) (l.take (k + 1)) = x := ⟨_, rfl⟩
      rw [EU] at S1
      rw [EV] at S2
      have HU := Lib.hid EU
      have HV := Lib.hid EV
      obtain ⟨s1, s2, s3, s4, ab1, mu1, pl1⟩ := S1
      obtain ⟨t1, t2, t3, t4, ab2, mu2, pl2⟩ := S2
      clear EU EV
      unfold wv at mu1 pl1 mu2 pl2
      have AB1 := Lib.hid ab1
      have MU1 := Lib.hid mu1
      have PL1 := Lib.hid pl1
      have AB2 := Lib.hid ab2
      have MU2 := Lib.hid mu2
      have PL2 := Lib.hid pl2
      clear ab1 mu1 pl1 ab2 mu2 pl2
      generalize m.w * absZ (C * m.a - B * m.b) * m.d = p1 at *
      generalize m.w * absZ (A * m.b - B * m.a) * m.d = p2 at *
      go_wp2_with fail
      have KC := Lib.hid (Blk.of (vs := #[.int .i64 m.s, .int .i64 m.a, .int .i64 m.b, .int .i64 m.z, .int .i64 m.d, .int .i64 m.w]) (t := 59) (w := wr) (b := wr.heap.size) rfl)
      have hb51 : Below wr.heap.size wr (wr.alloc (.cells #[.int .i64 m.s, .int .i64 m.a, .int .i64 m.b, .int .i64 m.z, .int .i64 m.d, .int .i64 m.w] 59)) := (Below.refl _ _).alloc (Nat.le_refl _) _
      have hnC := HB.out.size
      have nzC_Z := KZ.out.lt
      have nzC_N := KN.out.lt
      have nzC_S := KS.out.lt
      replace HB := Lib.hid (HB.out.trans (hb51.mono HB.out.size))
      replace KZ := Lib.hid (KZ.out.below hb51)
      replace KN := Lib.hid (KN.out.below hb51)
      replace KS := Lib.hid (KS.out.below hb51)
      clear hb51
      generalize wr.alloc (.cells #[.int .i64 m.s, .int .i64 m.a, .int .i64 m.b, .int .i64 m.z, .int .i64 m.d, .int .i64 m.w] 59) = w51 at *
      generalize wr.heap.size = bC at *
      have neC_Z : bC ≠ w.heap.size := by omega
      have neC_N : bC ≠ bN := by omega
      have neC_S : bC ≠ bS := by omega
      clear nzC_Z nzC_N nzC_S
      clear c0 c1 c2 c3 c4 c5 clt
      have gC_5 := fun d os => cell_regrown (KC.out.c 5 _ rfl) d os
      have gC_1 := fun d os => cell_regrown (KC.out.c 1 _ rfl) d os
      have gC_2 := fun d os => cell_regrown (KC.out.c 2 _ rfl) d os
      have gN_2 := fun d os => cell_regrown (KN.out.c 2 _ rfl) d os
      have gN_1 := fun d os => cell_regrown (KN.out.c 1 _ rfl) d os
      have rv0 := Lib.hid (fun d os => Calls.regrown_of (AB1.out (Go.Sort.grow (redrawn w51 d) os)))
      refine wp_region_quiet_below (by kernel_rfl) (by kernel_rfl) ?_
      repeat (quiet_step (first | with_reducible exact rv0.out _ _))
      refine wpQuiet_nil ?_
      intro w52 hw52
      have hb52 : Below w51.heap.size w51 w52 := by
        obtain ⟨⟨dq, osq⟩, hw2⟩ := hw52
        rw [hw2]; exact below_regrown _ dq osq
      clear gC_5 gC_1 gC_2 gN_2 gN_1 rv0 hw52
      replace HB := Lib.hid (HB.out.trans (hb52.mono HB.out.size))
      replace KZ := Lib.hid (KZ.out.below hb52)
      replace KN := Lib.hid (KN.out.below hb52)
      replace KS := Lib.hid (KS.out.below hb52)
      replace KC := Lib.hid (KC.out.below hb52)
      clear hb52
      clear s1 s2 s3 AB1
      generalize absZ (C * m.a - B * m.b) = x1 at *
      go_wp2_with fail
      have gC_5 := fun d os => cell_regrown (KC.out.c 5 _ rfl) d os
      have gC_1 := fun d os => cell_regrown (KC.out.c 1 _ rfl) d os
      have gC_2 := fun d os => cell_regrown (KC.out.c 2 _ rfl) d os
      have gN_0 := fun d os => cell_regrown (KN.out.c 0 _ rfl) d os
      have gN_1 := fun d os => cell_regrown (KN.out.c 1 _ rfl) d os
      have rv0 := Lib.hid (fun d os => Calls.regrown_of (AB2.out (Go.Sort.grow (redrawn w52 d) os)))
      refine wp_region_quiet_below (by kernel_rfl) (by kernel_rfl) ?_
      repeat (quiet_step (first | with_reducible exact rv0.out _ _))
      refine wpQuiet_nil ?_
      intro w53 hw53
      have hb53 : Below w52.heap.size w52 w53 := by
        obtain ⟨⟨dq, osq⟩, hw2⟩ := hw53
        rw [hw2]; exact below_regrown _ dq osq
      clear gC_5 gC_1 gC_2 gN_0 gN_1 rv0 hw53
      replace HB := Lib.hid (HB.out.trans (hb53.mono HB.out.size))
      replace KZ := Lib.hid (KZ.out.below hb53)
      replace KN := Lib.hid (KN.out.below hb53)
      replace KS := Lib.hid (KS.out.below hb53)
      replace KC := Lib.hid (KC.out.below hb53)
      clear hb53
      clear t1 t2 t3 AB2
      generalize absZ (A * m.b - B * m.a) = x2 at *
      generalize m.w * x1 = g1 at *
      generalize m.w * x2 = g2 at *
      go_wp2_with fail
      apply wp_join0 (R := fun w' => Hid (Below w.heap.size w w') ∧ Hid (Blk [.int .i64 0, .int .u64 0, .int .i64 0, .int .u64 0, .int .i64 0, .int .u64 0, .int .i64 0, .int .u64 0, .int .i64 0] w.heap.size w') ∧ Hid (Blk [.int .i64 A, .int .i64 B, .int .i64 C, .int .i64 D, .int .i64 E] bN w') ∧ Hid (Blk [.int .i64 (hiW X), .int .u64 (loW X), .int .i64 (hiW Y), .int .u64 (loW Y), .int .i64 (hiW U1), .int .u64 (loW U1), .int .i64 (hiW V), .int .u64 (loW V), .int .i64 T] bS w') ∧ Hid (Blk [.int .i64 m.s, .int .i64 m.a, .int .i64 m.b, .int .i64 m.z, .int .i64 m.d, .int .i64 m.w] bC w'))
      · have HB0 := Lib.hid (below_drew1 HB.out)
        have KZ0 := Lib.hid (blk_drew1 KZ.out)
        have KN0 := Lib.hid (blk_drew1 KN.out)
        have KS0 := Lib.hid (blk_drew1 KS.out)
        have KC0 := Lib.hid (blk_drew1 KC.out)
        have p0S := KS0.out
        have q0S_4 := p0S.c 4 _ rfl
        have q0S_5 := p0S.c 5 _ rfl
        have r0S_4 := p0S.f 4 _ rfl
        have r0S_5 := p0S.f 5 _ rfl
        have z0S := p0S.lt
        clear p0S
        have p0C := KC0.out
        have q0C_4 := p0C.c 4 _ rfl
        have z0C := p0C.lt
        clear p0C
        go_region_with (first
          | ((try go_simp); go_at_call 60; (refine (MU1.out _).mono ?_); rintro e1 v1 ⟨rfl, hb1⟩; have HB1 := Lib.hid (HB0.out.trans (hb1.mono HB0.out.size)); have KZ1 := Lib.hid (KZ0.out.below hb1); have KN1 := Lib.hid (KN0.out.below hb1); have KS1 := Lib.hid (KS0.out.below hb1); have KC1 := Lib.hid (KC0.out.below hb1); have p1S := KS1.out; have q1S_4 := p1S.c 4 _ rfl; have q1S_5 := p1S.c 5 _ rfl; have r1S_4 := p1S.f 4 _ rfl; have r1S_5 := p1S.f 5 _ rfl; have z1S := p1S.lt; clear p1S; have p1C := KC1.out; have q1C_4 := p1C.c 4 _ rfl; have z1C := p1C.lt; clear p1C; clear hb1)
          | ((try go_simp); go_at_call 59; (refine (PL1.out _).mono ?_); rintro e2 v2 ⟨rfl, hb2⟩; have HB2 := Lib.hid (HB1.out.trans (hb2.mono HB1.out.size)); have KZ2 := Lib.hid (KZ1.out.below hb2); have KN2 := Lib.hid (KN1.out.below hb2); have KS2 := Lib.hid (KS1.out.below hb2); have KC2 := Lib.hid (KC1.out.below hb2); have p2S := KS2.out; have q2S_4 := p2S.c 4 _ rfl; have q2S_5 := p2S.c 5 _ rfl; have r2S_4 := p2S.f 4 _ rfl; have r2S_5 := p2S.f 5 _ rfl; have z2S := p2S.lt; clear p2S; have p2C := KC2.out; have q2C_4 := p2C.c 4 _ rfl; have z2C := p2C.lt; clear p2C; clear hb2))
        all_goals
          refine OnlyN.mk ⟨rfl, ?_⟩
          exact ⟨Lib.hid ((HB2.out.setCell (p := ⟨bS, 4, none⟩) (show w.heap.size ≤ bS by omega) (.int .i64 (hiW U1))).setCell (p := ⟨bS, 5, none⟩) (show w.heap.size ≤ bS by omega) (.int .u64 (loW U1))), Lib.hid (blk_other (b := w.heap.size) (n := bS) (j := 5) (blk_other (b := w.heap.size) (n := bS) (j := 4) KZ2.out (by omega) (.int .i64 (hiW U1))) (by omega) (.int .u64 (loW U1))), Lib.hid (blk_other (b := bN) (n := bS) (j := 5) (blk_other (b := bN) (n := bS) (j := 4) KN2.out (by omega) (.int .i64 (hiW U1))) (by omega) (.int .u64 (loW U1))), Lib.hid (blk_set (blk_set KS2.out (j := 4) (by simp) (.int .i64 (hiW U1))) (j := 5) (by simp) (.int .u64 (loW U1))), Lib.hid (blk_other (b := bC) (n := bS) (j := 5) (blk_other (b := bC) (n := bS) (j := 4) KC2.out (by omega) (.int .i64 (hiW U1))) (by omega) (.int .u64 (loW U1)))⟩
      rintro w54 ⟨HB2, KZ2, KN2, KS2, KC2⟩
      replace HB := HB2
      clear HB2
      replace KZ := KZ2
      clear KZ2
      replace KN := KN2
      clear KN2
      replace KS := KS2
      clear KS2
      replace KC := KC2
      clear KC2
      go_wp2_with fail
      apply wp_join0 (R := fun w' => Hid (Below w.heap.size w w') ∧ Hid (Blk [.int .i64 0, .int .u64 0, .int .i64 0, .int .u64 0, .int .i64 0, .int .u64 0, .int .i64 0, .int .u64 0, .int .i64 0] w.heap.size w') ∧ Hid (Blk [.int .i64 A, .int .i64 B, .int .i64 C, .int .i64 D, .int .i64 E] bN w') ∧ Hid (Blk [.int .i64 (hiW X), .int .u64 (loW X), .int .i64 (hiW Y), .int .u64 (loW Y), .int .i64 (hiW U1), .int .u64 (loW U1), .int .i64 (hiW V1), .int .u64 (loW V1), .int .i64 T] bS w') ∧ Hid (Blk [.int .i64 m.s, .int .i64 m.a, .int .i64 m.b, .int .i64 m.z, .int .i64 m.d, .int .i64 m.w] bC w'))
      · have HB0 := Lib.hid (below_drew1 HB.out)
        have KZ0 := Lib.hid (blk_drew1 KZ.out)
        have KN0 := Lib.hid (blk_drew1 KN.out)
        have KS0 := Lib.hid (blk_drew1 KS.out)
        have KC0 := Lib.hid (blk_drew1 KC.out)
        have p0S := KS0.out
        have q0S_6 := p0S.c 6 _ rfl
        have q0S_7 := p0S.c 7 _ rfl
        have r0S_6 := p0S.f 6 _ rfl
        have r0S_7 := p0S.f 7 _ rfl
        have z0S := p0S.lt
        clear p0S
        have p0C := KC0.out
        have q0C_4 := p0C.c 4 _ rfl
        have z0C := p0C.lt
        clear p0C
        go_region_with (first
          | ((try go_simp); go_at_call 60; (refine (MU2.out _).mono ?_); rintro e1 v1 ⟨rfl, hb1⟩; have HB1 := Lib.hid (HB0.out.trans (hb1.mono HB0.out.size)); have KZ1 := Lib.hid (KZ0.out.below hb1); have KN1 := Lib.hid (KN0.out.below hb1); have KS1 := Lib.hid (KS0.out.below hb1); have KC1 := Lib.hid (KC0.out.below hb1); have p1S := KS1.out; have q1S_6 := p1S.c 6 _ rfl; have q1S_7 := p1S.c 7 _ rfl; have r1S_6 := p1S.f 6 _ rfl; have r1S_7 := p1S.f 7 _ rfl; have z1S := p1S.lt; clear p1S; have p1C := KC1.out; have q1C_4 := p1C.c 4 _ rfl; have z1C := p1C.lt; clear p1C; clear hb1)
          | ((try go_simp); go_at_call 59; (refine (PL2.out _).mono ?_); rintro e2 v2 ⟨rfl, hb2⟩; have HB2 := Lib.hid (HB1.out.trans (hb2.mono HB1.out.size)); have KZ2 := Lib.hid (KZ1.out.below hb2); have KN2 := Lib.hid (KN1.out.below hb2); have KS2 := Lib.hid (KS1.out.below hb2); have KC2 := Lib.hid (KC1.out.below hb2); have p2S := KS2.out; have q2S_6 := p2S.c 6 _ rfl; have q2S_7 := p2S.c 7 _ rfl; have r2S_6 := p2S.f 6 _ rfl; have r2S_7 := p2S.f 7 _ rfl; have z2S := p2S.lt; clear p2S; have p2C := KC2.out; have q2C_4 := p2C.c 4 _ rfl; have z2C := p2C.lt; clear p2C; clear hb2))
        all_goals
          refine OnlyN.mk ⟨rfl, ?_⟩
          exact ⟨Lib.hid ((HB2.out.setCell (p := ⟨bS, 6, none⟩) (show w.heap.size ≤ bS by omega) (.int .i64 (hiW V1))).setCell (p := ⟨bS, 7, none⟩) (show w.heap.size ≤ bS by omega) (.int .u64 (loW V1))), Lib.hid (blk_other (b := w.heap.size) (n := bS) (j := 7) (blk_other (b := w.heap.size) (n := bS) (j := 6) KZ2.out (by omega) (.int .i64 (hiW V1))) (by omega) (.int .u64 (loW V1))), Lib.hid (blk_other (b := bN) (n := bS) (j := 7) (blk_other (b := bN) (n := bS) (j := 6) KN2.out (by omega) (.int .i64 (hiW V1))) (by omega) (.int .u64 (loW V1))), Lib.hid (blk_set (blk_set KS2.out (j := 6) (by simp) (.int .i64 (hiW V1))) (j := 7) (by simp) (.int .u64 (loW V1))), Lib.hid (blk_other (b := bC) (n := bS) (j := 7) (blk_other (b := bC) (n := bS) (j := 6) KC2.out (by omega) (.int .i64 (hiW V1))) (by omega) (.int .u64 (loW V1)))⟩
      rintro w55 ⟨HB2, KZ2, KN2, KS2, KC2⟩
      replace HB := HB2
      clear HB2
      replace KZ := KZ2
      clear KZ2
      replace KN := KN2
      clear KN2
      replace KS := KS2
      clear KS2
      replace KC := KC2
      clear KC2
      go_wp2
      exact ⟨⟨k + 1, by go_num, by omega, HB, by rw [HA.out, HBB.out, HC.out, HD.out, HE.out]; exact KN, by rw [HX.out, HY.out, HT.out, HU.out, HV.out]; exact KS, KZ⟩, by simp [intOf]; omega⟩
    · obtain rfl : k = l.length := by omega
      rw [List.take_length, ← noiX_is, ← noiY_is] at KS
      obtain ⟨U, EU⟩ : ∃ x, noiX l = x := ⟨_, rfl⟩
      obtain ⟨V, EV⟩ : ∃ x, noiY l = x := ⟨_, rfl⟩
      rw [EU, EV] at KS
      have HU := Lib.hid EU
      have HV := Lib.hid EV
      clear EU EV
      have yZ := KZ.out
      have yZ_0 := yZ.c 0 _ rfl
      have yZ_1 := yZ.c 1 _ rfl
      have yZ_2 := yZ.c 2 _ rfl
      have yZ_3 := yZ.c 3 _ rfl
      have yZ_4 := yZ.c 4 _ rfl
      have yZ_5 := yZ.c 5 _ rfl
      have yZ_6 := yZ.c 6 _ rfl
      have yZ_7 := yZ.c 7 _ rfl
      have yZ_8 := yZ.c 8 _ rfl
      have yZ_z := yZ.lt
      have yZ_f0 := yZ.f 0 _ rfl
      have yZ_f1 := yZ.f 1 _ rfl
      have yZ_f2 := yZ.f 2 _ rfl
      have yZ_f3 := yZ.f 3 _ rfl
      have yZ_f4 := yZ.f 4 _ rfl
      have yZ_f5 := yZ.f 5 _ rfl
      have yZ_f6 := yZ.f 6 _ rfl
      have yZ_f7 := yZ.f 7 _ rfl
      have yZ_f8 := yZ.f 8 _ rfl
      clear yZ
      have yS := KS.out
      have yS_0 := yS.c 0 _ rfl
      have yS_1 := yS.c 1 _ rfl
      have yS_2 := yS.c 2 _ rfl
      have yS_3 := yS.c 3 _ rfl
      have yS_4 := yS.c 4 _ rfl
      have yS_5 := yS.c 5 _ rfl
      have yS_6 := yS.c 6 _ rfl
      have yS_7 := yS.c 7 _ rfl
      have yS_8 := yS.c 8 _ rfl
      have yS_z := yS.lt
      clear yS
      go_wp2
      replace KZ := Lib.hid (blk_set (blk_set (blk_set (blk_set (blk_set (blk_set (blk_set (blk_set (blk_set KZ.out (j := 0) (by simp) (.int .i64 (hiW X))) (j := 1) (by simp) (.int .u64 (loW X))) (j := 2) (by simp) (.int .i64 (hiW Y))) (j := 3) (by simp) (.int .u64 (loW Y))) (j := 4) (by simp) (.int .i64 (hiW U))) (j := 5) (by simp) (.int .u64 (loW U))) (j := 6) (by simp) (.int .i64 (hiW V))) (j := 7) (by simp) (.int .u64 (loW V))) (j := 8) (by simp) (.int .i64 T))
      replace KN := Lib.hid (blk_other (b := bN) (n := w.heap.size) (j := 8) (blk_other (b := bN) (n := w.heap.size) (j := 7) (blk_other (b := bN) (n := w.heap.size) (j := 6) (blk_other (b := bN) (n := w.heap.size) (j := 5) (blk_other (b := bN) (n := w.heap.size) (j := 4) (blk_other (b := bN) (n := w.heap.size) (j := 3) (blk_other (b := bN) (n := w.heap.size) (j := 2) (blk_other (b := bN) (n := w.heap.size) (j := 1) (blk_other (b := bN) (n := w.heap.size) (j := 0) KN.out (by omega) (.int .i64 (hiW X))) (by omega) (.int .u64 (loW X))) (by omega) (.int .i64 (hiW Y))) (by omega) (.int .u64 (loW Y))) (by omega) (.int .i64 (hiW U))) (by omega) (.int .u64 (loW U))) (by omega) (.int .i64 (hiW V))) (by omega) (.int .u64 (loW V))) (by omega) (.int .i64 T))
      replace KS := Lib.hid (blk_other (b := bS) (n := w.heap.size) (j := 8) (blk_other (b := bS) (n := w.heap.size) (j := 7) (blk_other (b := bS) (n := w.heap.size) (j := 6) (blk_other (b := bS) (n := w.heap.size) (j := 5) (blk_other (b := bS) (n := w.heap.size) (j := 4) (blk_other (b := bS) (n := w.heap.size) (j := 3) (blk_other (b := bS) (n := w.heap.size) (j := 2) (blk_other (b := bS) (n := w.heap.size) (j := 1) (blk_other (b := bS) (n := w.heap.size) (j := 0) KS.out (by omega) (.int .i64 (hiW X))) (by omega) (.int .u64 (loW X))) (by omega) (.int .i64 (hiW Y))) (by omega) (.int .u64 (loW Y))) (by omega) (.int .i64 (hiW U))) (by omega) (.int .u64 (loW U))) (by omega) (.int .i64 (hiW V))) (by omega) (.int .u64 (loW V))) (by omega) (.int .i64 T))
      replace HB := Lib.hid (((((((((HB.out.setCell (p := ⟨w.heap.size, 0, none⟩) (show w.heap.size ≤ w.heap.size by omega) (.int .i64 (hiW X))).setCell (p := ⟨w.heap.size, 1, none⟩) (show w.heap.size ≤ w.heap.size by omega) (.int .u64 (loW X))).setCell (p := ⟨w.heap.size, 2, none⟩) (show w.heap.size ≤ w.heap.size by omega) (.int .i64 (hiW Y))).setCell (p := ⟨w.heap.size, 3, none⟩) (show w.heap.size ≤ w.heap.size by omega) (.int .u64 (loW Y))).setCell (p := ⟨w.heap.size, 4, none⟩) (show w.heap.size ≤ w.heap.size by omega) (.int .i64 (hiW U))).setCell (p := ⟨w.heap.size, 5, none⟩) (show w.heap.size ≤ w.heap.size by omega) (.int .u64 (loW U))).setCell (p := ⟨w.heap.size, 6, none⟩) (show w.heap.size ≤ w.heap.size by omega) (.int .i64 (hiW V))).setCell (p := ⟨w.heap.size, 7, none⟩) (show w.heap.size ≤ w.heap.size by omega) (.int .u64 (loW V))).setCell (p := ⟨w.heap.size, 8, none⟩) (show w.heap.size ≤ w.heap.size by omega) (.int .i64 T))
      clear yZ_0 yZ_1 yZ_2 yZ_3 yZ_4 yZ_5 yZ_6 yZ_7 yZ_8 yZ_z yZ_f0 yZ_f1 yZ_f2 yZ_f3 yZ_f4 yZ_f5 yZ_f6 yZ_f7 yZ_f8 yS_0 yS_1 yS_2 yS_3 yS_4 yS_5 yS_6 yS_7 yS_8 yS_z
      generalize ((((((((wr.setCell ⟨w.heap.size, 0, none⟩ (.int .i64 (hiW X))).setCell ⟨w.heap.size, 1, none⟩ (.int .u64 (loW X))).setCell ⟨w.heap.size, 2, none⟩ (.int .i64 (hiW Y))).setCell ⟨w.heap.size, 3, none⟩ (.int .u64 (loW Y))).setCell ⟨w.heap.size, 4, none⟩ (.int .i64 (hiW U))).setCell ⟨w.heap.size, 5, none⟩ (.int .u64 (loW U))).setCell ⟨w.heap.size, 6, none⟩ (.int .i64 (hiW V))).setCell ⟨w.heap.size, 7, none⟩ (.int .u64 (loW V))).setCell ⟨w.heap.size, 8, none⟩ (.int .i64 T) = w51 at *
      simp only [List.set] at KZ
      have yZ := KZ.out
      have yZ_0 := yZ.c 0 _ rfl
      have yZ_1 := yZ.c 1 _ rfl
      have yZ_2 := yZ.c 2 _ rfl
      have yZ_3 := yZ.c 3 _ rfl
      have yZ_4 := yZ.c 4 _ rfl
      have yZ_5 := yZ.c 5 _ rfl
      have yZ_6 := yZ.c 6 _ rfl
      have yZ_7 := yZ.c 7 _ rfl
      have yZ_8 := yZ.c 8 _ rfl
      have yZ_z := yZ.lt
      clear yZ
      refine bodyPost_ret (v := .agg #[.int .i64 (hiW X), .int .u64 (loW X), .int .i64 (hiW Y), .int .u64 (loW Y), .int .i64 (hiW U), .int .u64 (loW U), .int .i64 (hiW V), .int .u64 (loW V), .int .i64 T]) (by simp [results, Tryz.results30, go_sem, yZ_0, yZ_1, yZ_2, yZ_3, yZ_4, yZ_5, yZ_6, yZ_7, yZ_8]) rfl ⟨by rw [HX.out, HY.out, HT.out, HU.out, HV.out], HB.out⟩
end Go.Proofs.YtidelghgjibndaaGreat
namespace Go.Proofs.YtidelghgjibndaaGreat
set_option linter.unusedVariables false
open Go.RowKit
theorem far7 {m b c : Nat} {W : World} (h : m ≤ c) (hb : b < m) {v0 v1 v2 v3 v4 v5 v6 : Value} (i : Nat) : (((((((W.setCell ⟨c, 0, none⟩ v0).setCell ⟨c, 1, none⟩ v1).setCell ⟨c, 2, none⟩ v2).setCell ⟨c, 3, none⟩ v3).setCell ⟨c, 4, none⟩ v4).setCell ⟨c, 5, none⟩ v5).setCell ⟨c, 6, none⟩ v6).cell? ⟨b, i, none⟩ = W.cell? ⟨b, i, none⟩ :=
  have hne : c ≠ b := by omega
  (((((((World.cell?_setCell_far _ _ _ _ hne).trans (World.cell?_setCell_far _ _ _ _ hne)).trans (World.cell?_setCell_far _ _ _ _ hne)).trans (World.cell?_setCell_far _ _ _ _ hne)).trans (World.cell?_setCell_far _ _ _ _ hne)).trans (World.cell?_setCell_far _ _ _ _ hne)).trans (World.cell?_setCell_far _ _ _ _ hne))
theorem chk_sol {l : List Ms} (h : chkL l ≠ 0) : solE l = chkL l := by unfold solE; rw [if_neg h]
set_option maxHeartbeats 40000000 in
set_option maxRecDepth 100000 in
theorem sol_bad0 (l : List Ms) (v : Value) (w : World) (h : LstAt l v w) (hc : chkL l = 0) (hs : solE l ≠ 0) :
    Calls Tryz.prog 28 #[v] w fun e w' => e = .returned (.tuple #[.agg #[.int .i64 0, .int .u64 0, .int .i64 0, .int .u64 0, .int .i64 0, .int .i64 0, .int .i64 0], .int .i64 (solE l)]) ∧ Below w.heap.size w w' := by
  obtain ⟨p, cap, rfl⟩ := lst_form h
  have OL := Lib.hid (okL_of hc)
  obtain ⟨⟨a0, a1⟩, ⟨b0, b1⟩, ⟨c0, c1⟩, ⟨d0, d1⟩, ⟨e0, e1⟩⟩ := nrm_bd OL.out
  obtain ⟨⟨dt0, dt1⟩, ⟨sx0, sx1⟩, ⟨sy0, sy1⟩⟩ := sol_bd (nrm_bd OL.out)
  have NO := Lib.hid fun w h => normal_any l (.slice p l.length cap) w h hc
  have P1 := mulb (X := 16777216) (Y := 16777216) (by omega) a0 a1 c0 c1
  have P2 := mulb (X := 16777216) (Y := 16777216) (by omega) b0 b1 b0 b1
  have LX := Lib.hid fun w => lsq_less (nYY l) (nXZ l) (nXY l) (nYZ l) w ⟨by omega, by omega⟩ ⟨by omega, by omega⟩ ⟨by omega, by omega⟩ ⟨by omega, by omega⟩ (show FitW (solX l) from ⟨by omega, by omega⟩)
  have LY := Lib.hid fun w => lsq_less (nXX l) (nYZ l) (nXY l) (nXZ l) w ⟨by omega, by omega⟩ ⟨by omega, by omega⟩ ⟨by omega, by omega⟩ ⟨by omega, by omega⟩ (show FitW (solY l) from ⟨by omega, by omega⟩)
  have q1 : IntKind.i64.wrap (nXX l * nYY l) = nXX l * nYY l := IntWalk.i64_in _ (by omega)
  have q2 : IntKind.i64.wrap (nXY l * nXY l) = nXY l * nXY l := IntWalk.i64_in _ (by omega)
  have q3 : IntKind.i64.wrap (nXX l * nYY l - nXY l * nXY l) = detN l := IntWalk.i64_in _ (by unfold detN at dt0 dt1; omega)
  have HX : Hid (solX l = nYY l * nXZ l - nXY l * nYZ l) := Lib.hid rfl
  have HY : Hid (solY l = nXX l * nYZ l - nXY l * nXZ l) := Lib.hid rfl
  rw [← HX.out] at LX
  rw [← HY.out] at LY
  have NX := Lib.hid fun (hd : 0 < detN l) w => nearest_any (solX l) (detN l) w (by omega) (by omega) hd (by omega)
  have NY := Lib.hid fun (hd : 0 < detN l) w => nearest_any (solY l) (detN l) w (by omega) (by omega) hd (by omega)
  have VP := Lib.hid fun w => vldP_any (cenX l) (cenY l) w
  have E0 : solE l = if detN l = 0 then 14 else if (pOk (cenX l) && pOk (cenY l)) = true then 0 else 2 := by unfold solE; rw [if_pos hc]
  have HDP : detN l ≠ 0 → 0 < detN l := fun q => by have := det_nonneg l (chk_w hc); omega
  rw [show nearI2 (solX l) (detN l) = cenX l from rfl] at NX
  rw [show nearI2 (solY l) (detN l) = cenY l from rfl] at NY
  clear hc a0 a1 b0 b1 c0 c1 d0 d1 e0 e1 dt0 dt1 sx0 sx1 sy0 sy1 P1 P2 HX HY
  obtain ⟨A, EA⟩ : ∃ x, nXX l = x := ⟨_, rfl⟩
  obtain ⟨B, EB⟩ : ∃ x, nXY l = x := ⟨_, rfl⟩
  obtain ⟨C, EC⟩ : ∃ x, nYY l = x := ⟨_, rfl⟩
  obtain ⟨D, ED⟩ : ∃ x, nXZ l = x := ⟨_, rfl⟩
  obtain ⟨E, EE⟩ : ∃ x, nYZ l = x := ⟨_, rfl⟩
  obtain ⟨X, EX⟩ : ∃ x, solX l = x := ⟨_, rfl⟩
  obtain ⟨Y, EY⟩ : ∃ x, solY l = x := ⟨_, rfl⟩
  obtain ⟨T, ET⟩ : ∃ x, detN l = x := ⟨_, rfl⟩
  rw [EA, EB, EC, ED, EE] at NO
  rw [EC, ED, EB, EE, EX] at LX
  rw [EA, EE, EB, ED, EY] at LY
  rw [EA, EC] at q1
  rw [EB] at q2
  rw [EA, EB, EC, ET] at q3
  rw [ET, EX] at NX
  rw [ET, EY] at NY
  rw [ET] at E0 HDP
  have HX := Lib.hid EX
  have HY := Lib.hid EY
  have HT := Lib.hid ET
  clear EA EB EC ED EE EX EY ET
  obtain ⟨cx, hcx⟩ : ∃ x, cenX l = x := ⟨_, rfl⟩
  obtain ⟨cy, hcy⟩ : ∃ x, cenY l = x := ⟨_, rfl⟩
  rw [hcx] at NX
  rw [hcy] at NY
  rw [hcx, hcy] at VP E0
  have HCX := Lib.hid hcx
  have HCY := Lib.hid hcy
  clear hcx hcy
  have PV : (pOk cx && pOk cy) = vldP cx cy := by unfold pOk vldP; rw [Bool.eq_iff_iff]; simp only [Bool.and_eq_true, decide_eq_true_eq]; omega
  have PI : vldP cx cy = true → I64 cx ∧ I64 cy := fun h => by have := vldP_iff.1 h; exact ⟨⟨by omega, by omega⟩, by omega, by omega⟩
  rw [PV] at E0
  clear PV
  unfold wv at LX LY NX NY
  obtain ⟨ee, hee⟩ : ∃ x, solE l = x := ⟨_, rfl⟩
  have HS := Lib.hid hee
  rw [hee] at E0 hs
  clear hee HCX HCY HX HY HT
  rw [HS.out]
  clear HS
  have H0 := Lib.hid h
  have KZ := Lib.hid (Blk.of (vs := #[.int .i64 0, .int .u64 0, .int .i64 0, .int .u64 0, .int .i64 0, .int .i64 0, .int .i64 0]) (t := 81) (w := w) (b := w.heap.size) (by simp))
  have HB := Lib.hid ((Below.refl w.heap.size w).alloc (by simp; try omega) (.cells #[.int .i64 0, .int .u64 0, .int .i64 0, .int .u64 0, .int .i64 0, .int .i64 0, .int .i64 0] 81))
  go_enter Tryz.func28, Tryz.ntmps28
  clear h
  go_wp2_with fail
  generalize w.alloc (.cells #[.int .i64 0, .int .u64 0, .int .i64 0, .int .u64 0, .int .i64 0, .int .i64 0, .int .i64 0] 81) = w0 at *
  refine (NO.out _ (H0.out.below HB.out)).mono ?_
  rintro e1 w1 ⟨rfl, hb1⟩
  replace HB := Lib.hid (HB.out.trans (hb1.mono HB.out.size))
  replace KZ := Lib.hid (KZ.out.below hb1)
  clear hb1
  go_wp2_with fail
  have KN := Lib.hid (Blk.of (vs := #[.int .i64 A, .int .i64 B, .int .i64 C, .int .i64 D, .int .i64 E]) (t := 112) (w := w1) (b := w1.heap.size) rfl)
  have hb2 : Below w1.heap.size w1 (w1.alloc (.cells #[.int .i64 A, .int .i64 B, .int .i64 C, .int .i64 D, .int .i64 E] 112)) := (Below.refl _ _).alloc (Nat.le_refl _) _
  have hnN := HB.out.size
  have nzN_Z := KZ.out.lt
  replace HB := Lib.hid (HB.out.trans (hb2.mono HB.out.size))
  replace KZ := Lib.hid (KZ.out.below hb2)
  clear hb2
  generalize w1.alloc (.cells #[.int .i64 A, .int .i64 B, .int .i64 C, .int .i64 D, .int .i64 E] 112) = w2 at *
  generalize w1.heap.size = bN at *
  have neN_Z : bN ≠ w.heap.size := by omega
  clear nzN_Z
  have BD := Lib.hid (show Below w2.heap.size w2 w2.drew from ⟨rfl, rfl, rfl, Nat.le_refl _, fun _ _ => rfl⟩)
  have BD2 := Lib.hid (below_drew_alloc w2 (.cells #[.int .i64 0, .int .u64 0, .int .i64 0, .int .u64 0, .int .i64 0, .int .i64 0, .int .i64 0] 81))
  have DLX := Lib.hid fun W (h : Below w2.heap.size w2 W) => (LX.out W).mono fun e w' ⟨h1, h2⟩ => show _ ∧ Below w2.heap.size w2 w' ∧ Below W.heap.size W w' from ⟨h1, h.trans (h2.mono h.size), h2⟩
  have DLY := Lib.hid fun W (h : Below w2.heap.size w2 W) => (LY.out W).mono fun e w' ⟨h1, h2⟩ => show _ ∧ Below w2.heap.size w2 w' ∧ Below W.heap.size W w' from ⟨h1, h.trans (h2.mono h.size), h2⟩
  have yN := KN.out
  have yN_0 := yN.c 0 _ rfl
  have yN_1 := yN.c 1 _ rfl
  have yN_2 := yN.c 2 _ rfl
  have yN_3 := yN.c 3 _ rfl
  have yN_4 := yN.c 4 _ rfl
  have yN_z := yN.lt
  clear yN
  apply wp_join (R := fun b w' => w.heap.size ≤ b ∧ b ≠ w.heap.size ∧ b ≠ bN ∧ Hid (Below w.heap.size w w') ∧ Hid (Blk [.int .i64 (hiW X), .int .u64 (loW X), .int .i64 (hiW Y), .int .u64 (loW Y), .int .i64 T, .int .i64 0, .int .i64 0] b w') ∧ Hid (Blk [.int .i64 0, .int .u64 0, .int .i64 0, .int .u64 0, .int .i64 0, .int .i64 0, .int .i64 0] w.heap.size w') ∧ Hid (Blk [.int .i64 A, .int .i64 B, .int .i64 C, .int .i64 D, .int .i64 E] bN w'))
  · go_region_held3 (fun w' => w'.cell? ⟨bN, 0, none⟩ = some (.int .i64 A) ∧ w'.cell? ⟨bN, 1, none⟩ = some (.int .i64 B) ∧ w'.cell? ⟨bN, 2, none⟩ = some (.int .i64 C) ∧ w'.cell? ⟨bN, 3, none⟩ = some (.int .i64 D) ∧ w'.cell? ⟨bN, 4, none⟩ = some (.int .i64 E)) (first | (refine ⟨?_, ?_, ?_, ?_, ?_⟩ <;> first | with_reducible assumption | (rw [far7 KV.out.1 yN_z]; with_reducible assumption)) | go_keep)
      (first
        | (go_at_call 54; with_reducible refine Calls.mono (DLX.out _ (by first | with_reducible exact BD.out | with_reducible exact BD2.out | with_reducible exact HX.out | with_reducible exact HX.out.alloc HX.out.size _)) ?_; rintro e9 w9 ⟨rfl, hb9, hc9⟩; have pN := KN.out.below hb9; have qN0 := pN.c 0 _ rfl; have qN1 := pN.c 1 _ rfl; have qN2 := pN.c 2 _ rfl; have qN3 := pN.c 3 _ rfl; have qN4 := pN.c 4 _ rfl; clear pN; (first | (with_reducible have KV := Lib.hid (kv_drew (vs := #[.int .i64 0, .int .u64 0, .int .i64 0, .int .u64 0, .int .i64 0, .int .i64 0, .int .i64 0]) (t := 81) hc9); have pV := KV.out.2; have v0 := pV.c 0 _ rfl; have vf0 := pV.f 0 _ rfl; have v1 := pV.c 1 _ rfl; have vf1 := pV.f 1 _ rfl; have v2 := pV.c 2 _ rfl; have vf2 := pV.f 2 _ rfl; have v3 := pV.c 3 _ rfl; have vf3 := pV.f 3 _ rfl; have v4 := pV.c 4 _ rfl; have vf4 := pV.f 4 _ rfl; have v5 := pV.c 5 _ rfl; have vf5 := pV.f 5 _ rfl; have v6 := pV.c 6 _ rfl; have vf6 := pV.f 6 _ rfl; have v9 := pV.lt; clear pV) | (with_reducible have KV := Lib.hid (kv_new (vs := #[.int .i64 0, .int .u64 0, .int .i64 0, .int .u64 0, .int .i64 0, .int .i64 0, .int .i64 0]) (t := 81) HX.out hc9); have pV := KV.out.2; have v0 := pV.c 0 _ rfl; have vf0 := pV.f 0 _ rfl; have v1 := pV.c 1 _ rfl; have vf1 := pV.f 1 _ rfl; have v2 := pV.c 2 _ rfl; have vf2 := pV.f 2 _ rfl; have v3 := pV.c 3 _ rfl; have vf3 := pV.f 3 _ rfl; have v4 := pV.c 4 _ rfl; have vf4 := pV.f 4 _ rfl; have v5 := pV.c 5 _ rfl; have vf5 := pV.f 5 _ rfl; have v6 := pV.c 6 _ rfl; have vf6 := pV.f 6 _ rfl; have v9 := pV.lt; clear pV) | (with_reducible have KV := Lib.hid (kv_old KV.out hc9); have pV := KV.out.2; have v0 := pV.c 0 _ rfl; have vf0 := pV.f 0 _ rfl; have v1 := pV.c 1 _ rfl; have vf1 := pV.f 1 _ rfl; have v2 := pV.c 2 _ rfl; have vf2 := pV.f 2 _ rfl; have v3 := pV.c 3 _ rfl; have vf3 := pV.f 3 _ rfl; have v4 := pV.c 4 _ rfl; have vf4 := pV.f 4 _ rfl; have v5 := pV.c 5 _ rfl; have vf5 := pV.f 5 _ rfl; have v6 := pV.c 6 _ rfl; have vf6 := pV.f 6 _ rfl; have v9 := pV.lt; clear pV) | skip); have HX := Lib.hid hb9; clear hb9 hc9)
        | (go_at_call 54; with_reducible refine Calls.mono (DLY.out _ (by first | with_reducible exact BD.out | with_reducible exact BD2.out | with_reducible exact HX.out | with_reducible exact HX.out.alloc HX.out.size _)) ?_; rintro e9 w9 ⟨rfl, hb9, hc9⟩; have pN := KN.out.below hb9; have qN0 := pN.c 0 _ rfl; have qN1 := pN.c 1 _ rfl; have qN2 := pN.c 2 _ rfl; have qN3 := pN.c 3 _ rfl; have qN4 := pN.c 4 _ rfl; clear pN; (first | (with_reducible have KV := Lib.hid (kv_drew (vs := #[.int .i64 0, .int .u64 0, .int .i64 0, .int .u64 0, .int .i64 0, .int .i64 0, .int .i64 0]) (t := 81) hc9); have pV := KV.out.2; have v0 := pV.c 0 _ rfl; have vf0 := pV.f 0 _ rfl; have v1 := pV.c 1 _ rfl; have vf1 := pV.f 1 _ rfl; have v2 := pV.c 2 _ rfl; have vf2 := pV.f 2 _ rfl; have v3 := pV.c 3 _ rfl; have vf3 := pV.f 3 _ rfl; have v4 := pV.c 4 _ rfl; have vf4 := pV.f 4 _ rfl; have v5 := pV.c 5 _ rfl; have vf5 := pV.f 5 _ rfl; have v6 := pV.c 6 _ rfl; have vf6 := pV.f 6 _ rfl; have v9 := pV.lt; clear pV) | (with_reducible have KV := Lib.hid (kv_new (vs := #[.int .i64 0, .int .u64 0, .int .i64 0, .int .u64 0, .int .i64 0, .int .i64 0, .int .i64 0]) (t := 81) HX.out hc9); have pV := KV.out.2; have v0 := pV.c 0 _ rfl; have vf0 := pV.f 0 _ rfl; have v1 := pV.c 1 _ rfl; have vf1 := pV.f 1 _ rfl; have v2 := pV.c 2 _ rfl; have vf2 := pV.f 2 _ rfl; have v3 := pV.c 3 _ rfl; have vf3 := pV.f 3 _ rfl; have v4 := pV.c 4 _ rfl; have vf4 := pV.f 4 _ rfl; have v5 := pV.c 5 _ rfl; have vf5 := pV.f 5 _ rfl; have v6 := pV.c 6 _ rfl; have vf6 := pV.f 6 _ rfl; have v9 := pV.lt; clear pV) | (with_reducible have KV := Lib.hid (kv_old KV.out hc9); have pV := KV.out.2; have v0 := pV.c 0 _ rfl; have vf0 := pV.f 0 _ rfl; have v1 := pV.c 1 _ rfl; have vf1 := pV.f 1 _ rfl; have v2 := pV.c 2 _ rfl; have vf2 := pV.f 2 _ rfl; have v3 := pV.c 3 _ rfl; have vf3 := pV.f 3 _ rfl; have v4 := pV.c 4 _ rfl; have vf4 := pV.f 4 _ rfl; have v5 := pV.c 5 _ rfl; have vf5 := pV.f 5 _ rfl; have v6 := pV.c 6 _ rfl; have vf6 := pV.f 6 _ rfl; have v9 := pV.lt; clear pV) | skip); have HX := Lib.hid hb9; clear hb9 hc9))
    all_goals
      first
        | (have FN := kv_set7 (.int .i64 (hiW X)) (.int .u64 (loW X)) (.int .i64 (hiW Y)) (.int .u64 (loW Y)) (.int .i64 T) (.int .i64 0) (.int .i64 0) KV.out HX.out; have FB := Lib.hid FN.1; have KS := Lib.hid FN.2.1; have n0S := FN.2.2; clear FN; generalize World.setCell (World.setCell (World.setCell (World.setCell (World.setCell (World.setCell (World.setCell _ _ (.int .i64 (hiW X))) _ (.int .u64 (loW X))) _ (.int .i64 (hiW Y))) _ (.int .u64 (loW Y))) _ (.int .i64 T)) _ (.int .i64 0)) _ (.int .i64 0) = w3 at *)
        | (have FN := kv_putn (vs := #[.int .i64 (hiW X), .int .u64 (loW X), .int .i64 (hiW Y), .int .u64 (loW Y), .int .i64 T, .int .i64 0, .int .i64 0]) (t := 81) HX.out; have FB := Lib.hid FN.1; have KS := Lib.hid FN.2.1; have n0S := FN.2.2; clear FN; generalize (World.alloc _ (.cells #[.int .i64 (hiW X), .int .u64 (loW X), .int .i64 (hiW Y), .int .u64 (loW Y), .int .i64 T, .int .i64 0, .int .i64 0] 81)) = w3 at *)
      have nS := Nat.le_trans HB.out.size n0S
      have neS_Z := Nat.ne_of_gt (Nat.lt_of_lt_of_le KZ.out.lt n0S)
      have neS_N := Nat.ne_of_gt (Nat.lt_of_lt_of_le KN.out.lt n0S)
      replace HB := Lib.hid (HB.out.trans (FB.out.mono HB.out.size))
      replace KZ := Lib.hid (KZ.out.below FB.out)
      replace KN := Lib.hid (KN.out.below FB.out)
      obtain ⟨bS, hbS⟩ := ex_blk KS
      rw [← hbS] at KS nS neS_Z neS_N ⊢
      refine OnlyN.mk ⟨bS, rfl, ?_⟩
      with_reducible exact ⟨nS, neS_Z, neS_N, HB, KS, KZ, KN⟩
  clear BD BD2 DLX DLY yN_0 yN_1 yN_2 yN_3 yN_4 yN_z
  rintro bS w3 ⟨nS, neS_Z, neS_N, HB2, KS, KZ2, KN2⟩
  replace HB := HB2
  clear HB2
  replace KZ := KZ2
  clear KZ2
  replace KN := KN2
  clear KN2
  clear LX LY NO q1 q2 q3
  by_cases ht : T = 0
  · have g : (T == 0) = true := by simpa using ht
    have HE := Lib.hid (E0.trans (if_pos ht))
    clear E0 HDP NX NY VP PI ht hs
    have yZ := KZ.out
    have yZ_0 := yZ.c 0 _ rfl
    have yZ_1 := yZ.c 1 _ rfl
    have yZ_2 := yZ.c 2 _ rfl
    have yZ_3 := yZ.c 3 _ rfl
    have yZ_4 := yZ.c 4 _ rfl
    have yZ_5 := yZ.c 5 _ rfl
    have yZ_6 := yZ.c 6 _ rfl
    have yZ_z := yZ.lt
    have yZ_f0 := yZ.f 0 _ rfl
    have yZ_f1 := yZ.f 1 _ rfl
    have yZ_f2 := yZ.f 2 _ rfl
    have yZ_f3 := yZ.f 3 _ rfl
    have yZ_f4 := yZ.f 4 _ rfl
    have yZ_f5 := yZ.f 5 _ rfl
    have yZ_f6 := yZ.f 6 _ rfl
    clear yZ
    have yS := KS.out
    have yS_0 := yS.c 0 _ rfl
    have yS_1 := yS.c 1 _ rfl
    have yS_2 := yS.c 2 _ rfl
    have yS_3 := yS.c 3 _ rfl
    have yS_4 := yS.c 4 _ rfl
    have yS_5 := yS.c 5 _ rfl
    have yS_6 := yS.c 6 _ rfl
    have yS_z := yS.lt
    have yS_f0 := yS.f 0 _ rfl
    have yS_f1 := yS.f 1 _ rfl
    have yS_f2 := yS.f 2 _ rfl
    have yS_f3 := yS.f 3 _ rfl
    have yS_f4 := yS.f 4 _ rfl
    have yS_f5 := yS.f 5 _ rfl
    have yS_f6 := yS.f 6 _ rfl
    clear yS
    go_wp2
    replace KZ := Lib.hid (blk_set (blk_set (blk_set (blk_set (blk_set (blk_set (blk_set KZ.out (j := 0) (by simp) (.int .i64 0)) (j := 1) (by simp) (.int .u64 0)) (j := 2) (by simp) (.int .i64 0)) (j := 3) (by simp) (.int .u64 0)) (j := 4) (by simp) (.int .i64 0)) (j := 5) (by simp) (.int .i64 0)) (j := 6) (by simp) (.int .i64 0))
    replace KN := Lib.hid (blk_other (b := bN) (n := w.heap.size) (j := 6) (blk_other (b := bN) (n := w.heap.size) (j := 5) (blk_other (b := bN) (n := w.heap.size) (j := 4) (blk_other (b := bN) (n := w.heap.size) (j := 3) (blk_other (b := bN) (n := w.heap.size) (j := 2) (blk_other (b := bN) (n := w.heap.size) (j := 1) (blk_other (b := bN) (n := w.heap.size) (j := 0) KN.out (by omega) (.int .i64 0)) (by omega) (.int .u64 0)) (by omega) (.int .i64 0)) (by omega) (.int .u64 0)) (by omega) (.int .i64 0)) (by omega) (.int .i64 0)) (by omega) (.int .i64 0))
    replace KS := Lib.hid (blk_other (b := bS) (n := w.heap.size) (j := 6) (blk_other (b := bS) (n := w.heap.size) (j := 5) (blk_other (b := bS) (n := w.heap.size) (j := 4) (blk_other (b := bS) (n := w.heap.size) (j := 3) (blk_other (b := bS) (n := w.heap.size) (j := 2) (blk_other (b := bS) (n := w.heap.size) (j := 1) (blk_other (b := bS) (n := w.heap.size) (j := 0) KS.out (by omega) (.int .i64 0)) (by omega) (.int .u64 0)) (by omega) (.int .i64 0)) (by omega) (.int .u64 0)) (by omega) (.int .i64 0)) (by omega) (.int .i64 0)) (by omega) (.int .i64 0))
    replace HB := Lib.hid (((((((HB.out.setCell (p := ⟨w.heap.size, 0, none⟩) (show w.heap.size ≤ w.heap.size by omega) (.int .i64 0)).setCell (p := ⟨w.heap.size, 1, none⟩) (show w.heap.size ≤ w.heap.size by omega) (.int .u64 0)).setCell (p := ⟨w.heap.size, 2, none⟩) (show w.heap.size ≤ w.heap.size by omega) (.int .i64 0)).setCell (p := ⟨w.heap.size, 3, none⟩) (show w.heap.size ≤ w.heap.size by omega) (.int .u64 0)).setCell (p := ⟨w.heap.size, 4, none⟩) (show w.heap.size ≤ w.heap.size by omega) (.int .i64 0)).setCell (p := ⟨w.heap.size, 5, none⟩) (show w.heap.size ≤ w.heap.size by omega) (.int .i64 0)).setCell (p := ⟨w.heap.size, 6, none⟩) (show w.heap.size ≤ w.heap.size by omega) (.int .i64 0))
    clear yZ_0 yZ_1 yZ_2 yZ_3 yZ_4 yZ_5 yZ_6 yZ_z yZ_f0 yZ_f1 yZ_f2 yZ_f3 yZ_f4 yZ_f5 yZ_f6 yS_0 yS_1 yS_2 yS_3 yS_4 yS_5 yS_6 yS_z yS_f0 yS_f1 yS_f2 yS_f3 yS_f4 yS_f5 yS_f6
    generalize ((((((w3.setCell ⟨w.heap.size, 0, none⟩ (.int .i64 0)).setCell ⟨w.heap.size, 1, none⟩ (.int .u64 0)).setCell ⟨w.heap.size, 2, none⟩ (.int .i64 0)).setCell ⟨w.heap.size, 3, none⟩ (.int .u64 0)).setCell ⟨w.heap.size, 4, none⟩ (.int .i64 0)).setCell ⟨w.heap.size, 5, none⟩ (.int .i64 0)).setCell ⟨w.heap.size, 6, none⟩ (.int .i64 0) = w4 at *
    simp only [List.set] at KZ
    have yZ := KZ.out
    have yZ_0 := yZ.c 0 _ rfl
    have yZ_1 := yZ.c 1 _ rfl
    have yZ_2 := yZ.c 2 _ rfl
    have yZ_3 := yZ.c 3 _ rfl
    have yZ_4 := yZ.c 4 _ rfl
    have yZ_5 := yZ.c 5 _ rfl
    have yZ_6 := yZ.c 6 _ rfl
    have yZ_z := yZ.lt
    clear yZ
    refine bodyPost_ret (v := .tuple #[.agg #[.int .i64 0, .int .u64 0, .int .i64 0, .int .u64 0, .int .i64 0, .int .i64 0, .int .i64 0], .int .i64 14]) (by simp [results, Tryz.results28, go_sem, yZ_0, yZ_1, yZ_2, yZ_3, yZ_4, yZ_5, yZ_6]) rfl ⟨by rw [HE.out], HB.out⟩
  · have g : (T == 0) = false := by simpa using ht
    have NX := Lib.hid (NX.out (HDP ht))
    have NY := Lib.hid (NY.out (HDP ht))
    have E1 := E0.trans (if_neg ht)
    have hv : vldP cx cy = false := by
      cases hv : vldP cx cy with
      | false => rfl
      | true => rw [hv, if_pos rfl] at E1; exact absurd E1 hs
    rw [hv] at E1 VP
    have HE : Hid (ee = 2) := Lib.hid E1
    clear E0 E1 HDP ht hs PI hv
    by_cases ix : I64 cx
    · rw [if_pos ix, decide_eq_true ix] at NX
      by_cases iy : I64 cy
      · rw [if_pos iy, decide_eq_true iy] at NY
        clear ix iy
        have yZ := KZ.out
        have yZ_0 := yZ.c 0 _ rfl
        have yZ_1 := yZ.c 1 _ rfl
        have yZ_2 := yZ.c 2 _ rfl
        have yZ_3 := yZ.c 3 _ rfl
        have yZ_4 := yZ.c 4 _ rfl
        have yZ_5 := yZ.c 5 _ rfl
        have yZ_6 := yZ.c 6 _ rfl
        have yZ_z := yZ.lt
        have yZ_f0 := yZ.f 0 _ rfl
        have yZ_f1 := yZ.f 1 _ rfl
        have yZ_f2 := yZ.f 2 _ rfl
        have yZ_f3 := yZ.f 3 _ rfl
        have yZ_f4 := yZ.f 4 _ rfl
        have yZ_f5 := yZ.f 5 _ rfl
        have yZ_f6 := yZ.f 6 _ rfl
        clear yZ
        have yS := KS.out
        have yS_0 := yS.c 0 _ rfl
        have yS_1 := yS.c 1 _ rfl
        have yS_2 := yS.c 2 _ rfl
        have yS_3 := yS.c 3 _ rfl
        have yS_4 := yS.c 4 _ rfl
        have yS_5 := yS.c 5 _ rfl
        have yS_6 := yS.c 6 _ rfl
        have yS_z := yS.lt
        have yS_f0 := yS.f 0 _ rfl
        have yS_f1 := yS.f 1 _ rfl
        have yS_f2 := yS.f 2 _ rfl
        have yS_f3 := yS.f 3 _ rfl
        have yS_f4 := yS.f 4 _ rfl
        have yS_f5 := yS.f 5 _ rfl
        have yS_f6 := yS.f 6 _ rfl
        clear yS
        go_wp2_with fail
        refine (NX.out _).mono ?_
        rintro e4 w4 ⟨rfl, hb4⟩
        replace HB := Lib.hid (HB.out.trans (hb4.mono HB.out.size))
        replace KZ := Lib.hid (KZ.out.below hb4)
        replace KN := Lib.hid (KN.out.below hb4)
        replace KS := Lib.hid (KS.out.below hb4)
        clear yZ_0 yZ_1 yZ_2 yZ_3 yZ_4 yZ_5 yZ_6 yZ_z yZ_f0 yZ_f1 yZ_f2 yZ_f3 yZ_f4 yZ_f5 yZ_f6 yS_0 yS_1 yS_2 yS_3 yS_4 yS_5 yS_6 yS_z yS_f0 yS_f1 yS_f2 yS_f3 yS_f4 yS_f5 yS_f6
        clear hb4
        have yS := KS.out
        have yS_0 := yS.c 0 _ rfl
        have yS_1 := yS.c 1 _ rfl
        have yS_2 := yS.c 2 _ rfl
        have yS_3 := yS.c 3 _ rfl
        have yS_4 := yS.c 4 _ rfl
        have yS_5 := yS.c 5 _ rfl
        have yS_6 := yS.c 6 _ rfl
        have yS_z := yS.lt
        have yS_f0 := yS.f 0 _ rfl
        have yS_f1 := yS.f 1 _ rfl
        have yS_f2 := yS.f 2 _ rfl
        have yS_f3 := yS.f 3 _ rfl
        have yS_f4 := yS.f 4 _ rfl
        have yS_f5 := yS.f 5 _ rfl
        have yS_f6 := yS.f 6 _ rfl
        clear yS
        go_wp2_with fail
        refine (NY.out _).mono ?_
        rintro e5 w5 ⟨rfl, hb5⟩
        replace HB := Lib.hid (HB.out.trans (hb5.mono HB.out.size))
        replace KZ := Lib.hid (KZ.out.below hb5)
        replace KN := Lib.hid (KN.out.below hb5)
        replace KS := Lib.hid (KS.out.below hb5)
        clear yS_0 yS_1 yS_2 yS_3 yS_4 yS_5 yS_6 yS_z yS_f0 yS_f1 yS_f2 yS_f3 yS_f4 yS_f5 yS_f6
        clear hb5
        have yZ := KZ.out
        have yZ_0 := yZ.c 0 _ rfl
        have yZ_1 := yZ.c 1 _ rfl
        have yZ_2 := yZ.c 2 _ rfl
        have yZ_3 := yZ.c 3 _ rfl
        have yZ_4 := yZ.c 4 _ rfl
        have yZ_5 := yZ.c 5 _ rfl
        have yZ_6 := yZ.c 6 _ rfl
        have yZ_z := yZ.lt
        have yZ_f0 := yZ.f 0 _ rfl
        have yZ_f1 := yZ.f 1 _ rfl
        have yZ_f2 := yZ.f 2 _ rfl
        have yZ_f3 := yZ.f 3 _ rfl
        have yZ_f4 := yZ.f 4 _ rfl
        have yZ_f5 := yZ.f 5 _ rfl
        have yZ_f6 := yZ.f 6 _ rfl
        clear yZ
        have yS := KS.out
        have yS_0 := yS.c 0 _ rfl
        have yS_1 := yS.c 1 _ rfl
        have yS_2 := yS.c 2 _ rfl
        have yS_3 := yS.c 3 _ rfl
        have yS_4 := yS.c 4 _ rfl
        have yS_5 := yS.c 5 _ rfl
        have yS_6 := yS.c 6 _ rfl
        have yS_z := yS.lt
        have yS_f0 := yS.f 0 _ rfl
        have yS_f1 := yS.f 1 _ rfl
        have yS_f2 := yS.f 2 _ rfl
        have yS_f3 := yS.f 3 _ rfl
        have yS_f4 := yS.f 4 _ rfl
        have yS_f5 := yS.f 5 _ rfl
        have yS_f6 := yS.f 6 _ rfl
        clear yS
        go_wp2_with fail
        replace KZ := Lib.hid (blk_other (b := w.heap.size) (n := bS) (j := 6) (blk_other (b := w.heap.size) (n := bS) (j := 5) KZ.out (by omega) (.int .i64 cx)) (by omega) (.int .i64 cy))
        replace KN := Lib.hid (blk_other (b := bN) (n := bS) (j := 6) (blk_other (b := bN) (n := bS) (j := 5) KN.out (by omega) (.int .i64 cx)) (by omega) (.int .i64 cy))
        replace KS := Lib.hid (blk_set (blk_set KS.out (j := 5) (by simp) (.int .i64 cx)) (j := 6) (by simp) (.int .i64 cy))
        replace HB := Lib.hid ((HB.out.setCell (p := ⟨bS, 5, none⟩) (show w.heap.size ≤ bS by omega) (.int .i64 cx)).setCell (p := ⟨bS, 6, none⟩) (show w.heap.size ≤ bS by omega) (.int .i64 cy))
        clear yZ_0 yZ_1 yZ_2 yZ_3 yZ_4 yZ_5 yZ_6 yZ_z yZ_f0 yZ_f1 yZ_f2 yZ_f3 yZ_f4 yZ_f5 yZ_f6 yS_0 yS_1 yS_2 yS_3 yS_4 yS_5 yS_6 yS_z yS_f0 yS_f1 yS_f2 yS_f3 yS_f4 yS_f5 yS_f6
        generalize (w5.setCell ⟨bS, 5, none⟩ (.int .i64 cx)).setCell ⟨bS, 6, none⟩ (.int .i64 cy) = w6 at *
        simp only [List.set] at KS
        refine (VP.out _).mono ?_
        rintro e7 w7 ⟨rfl, hb7⟩
        replace HB := Lib.hid (HB.out.trans (hb7.mono HB.out.size))
        replace KZ := Lib.hid (KZ.out.below hb7)
        replace KN := Lib.hid (KN.out.below hb7)
        replace KS := Lib.hid (KS.out.below hb7)
        clear hb7
        have yZ := KZ.out
        have yZ_0 := yZ.c 0 _ rfl
        have yZ_1 := yZ.c 1 _ rfl
        have yZ_2 := yZ.c 2 _ rfl
        have yZ_3 := yZ.c 3 _ rfl
        have yZ_4 := yZ.c 4 _ rfl
        have yZ_5 := yZ.c 5 _ rfl
        have yZ_6 := yZ.c 6 _ rfl
        have yZ_z := yZ.lt
        have yZ_f0 := yZ.f 0 _ rfl
        have yZ_f1 := yZ.f 1 _ rfl
        have yZ_f2 := yZ.f 2 _ rfl
        have yZ_f3 := yZ.f 3 _ rfl
        have yZ_f4 := yZ.f 4 _ rfl
        have yZ_f5 := yZ.f 5 _ rfl
        have yZ_f6 := yZ.f 6 _ rfl
        clear yZ
        have yS := KS.out
        have yS_0 := yS.c 0 _ rfl
        have yS_1 := yS.c 1 _ rfl
        have yS_2 := yS.c 2 _ rfl
        have yS_3 := yS.c 3 _ rfl
        have yS_4 := yS.c 4 _ rfl
        have yS_5 := yS.c 5 _ rfl
        have yS_6 := yS.c 6 _ rfl
        have yS_z := yS.lt
        have yS_f0 := yS.f 0 _ rfl
        have yS_f1 := yS.f 1 _ rfl
        have yS_f2 := yS.f 2 _ rfl
        have yS_f3 := yS.f 3 _ rfl
        have yS_f4 := yS.f 4 _ rfl
        have yS_f5 := yS.f 5 _ rfl
        have yS_f6 := yS.f 6 _ rfl
        clear yS
        go_wp2
        replace KZ := Lib.hid (blk_set (blk_set (blk_set (blk_set (blk_set (blk_set (blk_set KZ.out (j := 0) (by simp) (.int .i64 0)) (j := 1) (by simp) (.int .u64 0)) (j := 2) (by simp) (.int .i64 0)) (j := 3) (by simp) (.int .u64 0)) (j := 4) (by simp) (.int .i64 0)) (j := 5) (by simp) (.int .i64 0)) (j := 6) (by simp) (.int .i64 0))
        replace KN := Lib.hid (blk_other (b := bN) (n := w.heap.size) (j := 6) (blk_other (b := bN) (n := w.heap.size) (j := 5) (blk_other (b := bN) (n := w.heap.size) (j := 4) (blk_other (b := bN) (n := w.heap.size) (j := 3) (blk_other (b := bN) (n := w.heap.size) (j := 2) (blk_other (b := bN) (n := w.heap.size) (j := 1) (blk_other (b := bN) (n := w.heap.size) (j := 0) KN.out (by omega) (.int .i64 0)) (by omega) (.int .u64 0)) (by omega) (.int .i64 0)) (by omega) (.int .u64 0)) (by omega) (.int .i64 0)) (by omega) (.int .i64 0)) (by omega) (.int .i64 0))
        replace KS := Lib.hid (blk_other (b := bS) (n := w.heap.size) (j := 6) (blk_other (b := bS) (n := w.heap.size) (j := 5) (blk_other (b := bS) (n := w.heap.size) (j := 4) (blk_other (b := bS) (n := w.heap.size) (j := 3) (blk_other (b := bS) (n := w.heap.size) (j := 2) (blk_other (b := bS) (n := w.heap.size) (j := 1) (blk_other (b := bS) (n := w.heap.size) (j := 0) KS.out (by omega) (.int .i64 0)) (by omega) (.int .u64 0)) (by omega) (.int .i64 0)) (by omega) (.int .u64 0)) (by omega) (.int .i64 0)) (by omega) (.int .i64 0)) (by omega) (.int .i64 0))
        replace HB := Lib.hid (((((((HB.out.setCell (p := ⟨w.heap.size, 0, none⟩) (show w.heap.size ≤ w.heap.size by omega) (.int .i64 0)).setCell (p := ⟨w.heap.size, 1, none⟩) (show w.heap.size ≤ w.heap.size by omega) (.int .u64 0)).setCell (p := ⟨w.heap.size, 2, none⟩) (show w.heap.size ≤ w.heap.size by omega) (.int .i64 0)).setCell (p := ⟨w.heap.size, 3, none⟩) (show w.heap.size ≤ w.heap.size by omega) (.int .u64 0)).setCell (p := ⟨w.heap.size, 4, none⟩) (show w.heap.size ≤ w.heap.size by omega) (.int .i64 0)).setCell (p := ⟨w.heap.size, 5, none⟩) (show w.heap.size ≤ w.heap.size by omega) (.int .i64 0)).setCell (p := ⟨w.heap.size, 6, none⟩) (show w.heap.size ≤ w.heap.size by omega) (.int .i64 0))
        clear yZ_0 yZ_1 yZ_2 yZ_3 yZ_4 yZ_5 yZ_6 yZ_z yZ_f0 yZ_f1 yZ_f2 yZ_f3 yZ_f4 yZ_f5 yZ_f6 yS_0 yS_1 yS_2 yS_3 yS_4 yS_5 yS_6 yS_z yS_f0 yS_f1 yS_f2 yS_f3 yS_f4 yS_f5 yS_f6
        generalize ((((((w7.setCell ⟨w.heap.size, 0, none⟩ (.int .i64 0)).setCell ⟨w.heap.size, 1, none⟩ (.int .u64 0)).setCell ⟨w.heap.size, 2, none⟩ (.int .i64 0)).setCell ⟨w.heap.size, 3, none⟩ (.int .u64 0)).setCell ⟨w.heap.size, 4, none⟩ (.int .i64 0)).setCell ⟨w.heap.size, 5, none⟩ (.int .i64 0)).setCell ⟨w.heap.size, 6, none⟩ (.int .i64 0) = w8 at *
        simp only [List.set] at KZ
        have yZ := KZ.out
        have yZ_0 := yZ.c 0 _ rfl
        have yZ_1 := yZ.c 1 _ rfl
        have yZ_2 := yZ.c 2 _ rfl
        have yZ_3 := yZ.c 3 _ rfl
        have yZ_4 := yZ.c 4 _ rfl
        have yZ_5 := yZ.c 5 _ rfl
        have yZ_6 := yZ.c 6 _ rfl
        have yZ_z := yZ.lt
        clear yZ
        refine bodyPost_ret (v := .tuple #[.agg #[.int .i64 0, .int .u64 0, .int .i64 0, .int .u64 0, .int .i64 0, .int .i64 0, .int .i64 0], .int .i64 2]) (by simp [results, Tryz.results28, go_sem, yZ_0, yZ_1, yZ_2, yZ_3, yZ_4, yZ_5, yZ_6]) rfl ⟨by rw [HE.out], HB.out⟩
      · rw [if_neg iy, decide_eq_false iy] at NY
        clear ix iy
        have yZ := KZ.out
        have yZ_0 := yZ.c 0 _ rfl
        have yZ_1 := yZ.c 1 _ rfl
        have yZ_2 := yZ.c 2 _ rfl
        have yZ_3 := yZ.c 3 _ rfl
        have yZ_4 := yZ.c 4 _ rfl
        have yZ_5 := yZ.c 5 _ rfl
        have yZ_6 := yZ.c 6 _ rfl
        have yZ_z := yZ.lt
        have yZ_f0 := yZ.f 0 _ rfl
        have yZ_f1 := yZ.f 1 _ rfl
        have yZ_f2 := yZ.f 2 _ rfl
        have yZ_f3 := yZ.f 3 _ rfl
        have yZ_f4 := yZ.f 4 _ rfl
        have yZ_f5 := yZ.f 5 _ rfl
        have yZ_f6 := yZ.f 6 _ rfl
        clear yZ
        have yS := KS.out
        have yS_0 := yS.c 0 _ rfl
        have yS_1 := yS.c 1 _ rfl
        have yS_2 := yS.c 2 _ rfl
        have yS_3 := yS.c 3 _ rfl
        have yS_4 := yS.c 4 _ rfl
        have yS_5 := yS.c 5 _ rfl
        have yS_6 := yS.c 6 _ rfl
        have yS_z := yS.lt
        have yS_f0 := yS.f 0 _ rfl
        have yS_f1 := yS.f 1 _ rfl
        have yS_f2 := yS.f 2 _ rfl
        have yS_f3 := yS.f 3 _ rfl
        have yS_f4 := yS.f 4 _ rfl
        have yS_f5 := yS.f 5 _ rfl
        have yS_f6 := yS.f 6 _ rfl
        clear yS
        go_wp2_with fail
        refine (NX.out _).mono ?_
        rintro e4 w4 ⟨rfl, hb4⟩
        replace HB := Lib.hid (HB.out.trans (hb4.mono HB.out.size))
        replace KZ := Lib.hid (KZ.out.below hb4)
        replace KN := Lib.hid (KN.out.below hb4)
        replace KS := Lib.hid (KS.out.below hb4)
        clear yZ_0 yZ_1 yZ_2 yZ_3 yZ_4 yZ_5 yZ_6 yZ_z yZ_f0 yZ_f1 yZ_f2 yZ_f3 yZ_f4 yZ_f5 yZ_f6 yS_0 yS_1 yS_2 yS_3 yS_4 yS_5 yS_6 yS_z yS_f0 yS_f1 yS_f2 yS_f3 yS_f4 yS_f5 yS_f6
        clear hb4
        have yS := KS.out
        have yS_0 := yS.c 0 _ rfl
        have yS_1 := yS.c 1 _ rfl
        have yS_2 := yS.c 2 _ rfl
        have yS_3 := yS.c 3 _ rfl
        have yS_4 := yS.c 4 _ rfl
        have yS_5 := yS.c 5 _ rfl
        have yS_6 := yS.c 6 _ rfl
        have yS_z := yS.lt
        have yS_f0 := yS.f 0 _ rfl
        have yS_f1 := yS.f 1 _ rfl
        have yS_f2 := yS.f 2 _ rfl
        have yS_f3 := yS.f 3 _ rfl
        have yS_f4 := yS.f 4 _ rfl
        have yS_f5 := yS.f 5 _ rfl
        have yS_f6 := yS.f 6 _ rfl
        clear yS
        go_wp2_with fail
        refine (NY.out _).mono ?_
        rintro e5 w5 ⟨rfl, hb5⟩
        replace HB := Lib.hid (HB.out.trans (hb5.mono HB.out.size))
        replace KZ := Lib.hid (KZ.out.below hb5)
        replace KN := Lib.hid (KN.out.below hb5)
        replace KS := Lib.hid (KS.out.below hb5)
        clear yS_0 yS_1 yS_2 yS_3 yS_4 yS_5 yS_6 yS_z yS_f0 yS_f1 yS_f2 yS_f3 yS_f4 yS_f5 yS_f6
        clear hb5
        have yZ := KZ.out
        have yZ_0 := yZ.c 0 _ rfl
        have yZ_1 := yZ.c 1 _ rfl
        have yZ_2 := yZ.c 2 _ rfl
        have yZ_3 := yZ.c 3 _ rfl
        have yZ_4 := yZ.c 4 _ rfl
        have yZ_5 := yZ.c 5 _ rfl
        have yZ_6 := yZ.c 6 _ rfl
        have yZ_z := yZ.lt
        have yZ_f0 := yZ.f 0 _ rfl
        have yZ_f1 := yZ.f 1 _ rfl
        have yZ_f2 := yZ.f 2 _ rfl
        have yZ_f3 := yZ.f 3 _ rfl
        have yZ_f4 := yZ.f 4 _ rfl
        have yZ_f5 := yZ.f 5 _ rfl
        have yZ_f6 := yZ.f 6 _ rfl
        clear yZ
        have yS := KS.out
        have yS_0 := yS.c 0 _ rfl
        have yS_1 := yS.c 1 _ rfl
        have yS_2 := yS.c 2 _ rfl
        have yS_3 := yS.c 3 _ rfl
        have yS_4 := yS.c 4 _ rfl
        have yS_5 := yS.c 5 _ rfl
        have yS_6 := yS.c 6 _ rfl
        have yS_z := yS.lt
        have yS_f0 := yS.f 0 _ rfl
        have yS_f1 := yS.f 1 _ rfl
        have yS_f2 := yS.f 2 _ rfl
        have yS_f3 := yS.f 3 _ rfl
        have yS_f4 := yS.f 4 _ rfl
        have yS_f5 := yS.f 5 _ rfl
        have yS_f6 := yS.f 6 _ rfl
        clear yS
        go_wp2
        replace KZ := Lib.hid (blk_other (b := w.heap.size) (n := bS) (j := 6) (blk_other (b := w.heap.size) (n := bS) (j := 5) KZ.out (by omega) (.int .i64 cx)) (by omega) (.int .i64 0))
        replace KN := Lib.hid (blk_other (b := bN) (n := bS) (j := 6) (blk_other (b := bN) (n := bS) (j := 5) KN.out (by omega) (.int .i64 cx)) (by omega) (.int .i64 0))
        replace KS := Lib.hid (blk_set (blk_set KS.out (j := 5) (by simp) (.int .i64 cx)) (j := 6) (by simp) (.int .i64 0))
        replace HB := Lib.hid ((HB.out.setCell (p := ⟨bS, 5, none⟩) (show w.heap.size ≤ bS by omega) (.int .i64 cx)).setCell (p := ⟨bS, 6, none⟩) (show w.heap.size ≤ bS by omega) (.int .i64 0))
        clear yZ_0 yZ_1 yZ_2 yZ_3 yZ_4 yZ_5 yZ_6 yZ_z yZ_f0 yZ_f1 yZ_f2 yZ_f3 yZ_f4 yZ_f5 yZ_f6 yS_0 yS_1 yS_2 yS_3 yS_4 yS_5 yS_6 yS_z yS_f0 yS_f1 yS_f2 yS_f3 yS_f4 yS_f5 yS_f6
        generalize (w5.setCell ⟨bS, 5, none⟩ (.int .i64 cx)).setCell ⟨bS, 6, none⟩ (.int .i64 0) = w6 at *
        simp only [List.set] at KS
        replace KZ := Lib.hid (blk_set (blk_set (blk_set (blk_set (blk_set (blk_set (blk_set KZ.out (j := 0) (by simp) (.int .i64 0)) (j := 1) (by simp) (.int .u64 0)) (j := 2) (by simp) (.int .i64 0)) (j := 3) (by simp) (.int .u64 0)) (j := 4) (by simp) (.int .i64 0)) (j := 5) (by simp) (.int .i64 0)) (j := 6) (by simp) (.int .i64 0))
        replace KN := Lib.hid (blk_other (b := bN) (n := w.heap.size) (j := 6) (blk_other (b := bN) (n := w.heap.size) (j := 5) (blk_other (b := bN) (n := w.heap.size) (j := 4) (blk_other (b := bN) (n := w.heap.size) (j := 3) (blk_other (b := bN) (n := w.heap.size) (j := 2) (blk_other (b := bN) (n := w.heap.size) (j := 1) (blk_other (b := bN) (n := w.heap.size) (j := 0) KN.out (by omega) (.int .i64 0)) (by omega) (.int .u64 0)) (by omega) (.int .i64 0)) (by omega) (.int .u64 0)) (by omega) (.int .i64 0)) (by omega) (.int .i64 0)) (by omega) (.int .i64 0))
        replace KS := Lib.hid (blk_other (b := bS) (n := w.heap.size) (j := 6) (blk_other (b := bS) (n := w.heap.size) (j := 5) (blk_other (b := bS) (n := w.heap.size) (j := 4) (blk_other (b := bS) (n := w.heap.size) (j := 3) (blk_other (b := bS) (n := w.heap.size) (j := 2) (blk_other (b := bS) (n := w.heap.size) (j := 1) (blk_other (b := bS) (n := w.heap.size) (j := 0) KS.out (by omega) (.int .i64 0)) (by omega) (.int .u64 0)) (by omega) (.int .i64 0)) (by omega) (.int .u64 0)) (by omega) (.int .i64 0)) (by omega) (.int .i64 0)) (by omega) (.int .i64 0))
        replace HB := Lib.hid (((((((HB.out.setCell (p := ⟨w.heap.size, 0, none⟩) (show w.heap.size ≤ w.heap.size by omega) (.int .i64 0)).setCell (p := ⟨w.heap.size, 1, none⟩) (show w.heap.size ≤ w.heap.size by omega) (.int .u64 0)).setCell (p := ⟨w.heap.size, 2, none⟩) (show w.heap.size ≤ w.heap.size by omega) (.int .i64 0)).setCell (p := ⟨w.heap.size, 3, none⟩) (show w.heap.size ≤ w.heap.size by omega) (.int .u64 0)).setCell (p := ⟨w.heap.size, 4, none⟩) (show w.heap.size ≤ w.heap.size by omega) (.int .i64 0)).setCell (p := ⟨w.heap.size, 5, none⟩) (show w.heap.size ≤ w.heap.size by omega) (.int .i64 0)).setCell (p := ⟨w.heap.size, 6, none⟩) (show w.heap.size ≤ w.heap.size by omega) (.int .i64 0))
        generalize ((((((w6.setCell ⟨w.heap.size, 0, none⟩ (.int .i64 0)).setCell ⟨w.heap.size, 1, none⟩ (.int .u64 0)).setCell ⟨w.heap.size, 2, none⟩ (.int .i64 0)).setCell ⟨w.heap.size, 3, none⟩ (.int .u64 0)).setCell ⟨w.heap.size, 4, none⟩ (.int .i64 0)).setCell ⟨w.heap.size, 5, none⟩ (.int .i64 0)).setCell ⟨w.heap.size, 6, none⟩ (.int .i64 0) = w7 at *
        simp only [List.set] at KZ
        have yZ := KZ.out
        have yZ_0 := yZ.c 0 _ rfl
        have yZ_1 := yZ.c 1 _ rfl
        have yZ_2 := yZ.c 2 _ rfl
        have yZ_3 := yZ.c 3 _ rfl
        have yZ_4 := yZ.c 4 _ rfl
        have yZ_5 := yZ.c 5 _ rfl
        have yZ_6 := yZ.c 6 _ rfl
        have yZ_z := yZ.lt
        clear yZ
        refine bodyPost_ret (v := .tuple #[.agg #[.int .i64 0, .int .u64 0, .int .i64 0, .int .u64 0, .int .i64 0, .int .i64 0, .int .i64 0], .int .i64 2]) (by simp [results, Tryz.results28, go_sem, yZ_0, yZ_1, yZ_2, yZ_3, yZ_4, yZ_5, yZ_6]) rfl ⟨by rw [HE.out], HB.out⟩
    · rw [if_neg ix, decide_eq_false ix] at NX
      obtain ⟨oy, hoy⟩ : ∃ b, decide (I64 cy) = b := ⟨_, rfl⟩
      obtain ⟨uy, huy⟩ : ∃ b, (if I64 cy then cy else 0) = b := ⟨_, rfl⟩
      rw [hoy, huy] at NY
      clear ix hoy huy
      have yZ := KZ.out
      have yZ_0 := yZ.c 0 _ rfl
      have yZ_1 := yZ.c 1 _ rfl
      have yZ_2 := yZ.c 2 _ rfl
      have yZ_3 := yZ.c 3 _ rfl
      have yZ_4 := yZ.c 4 _ rfl
      have yZ_5 := yZ.c 5 _ rfl
      have yZ_6 := yZ.c 6 _ rfl
      have yZ_z := yZ.lt
      have yZ_f0 := yZ.f 0 _ rfl
      have yZ_f1 := yZ.f 1 _ rfl
      have yZ_f2 := yZ.f 2 _ rfl
      have yZ_f3 := yZ.f 3 _ rfl
      have yZ_f4 := yZ.f 4 _ rfl
      have yZ_f5 := yZ.f 5 _ rfl
      have yZ_f6 := yZ.f 6 _ rfl
      clear yZ
      have yS := KS.out
      have yS_0 := yS.c 0 _ rfl
      have yS_1 := yS.c 1 _ rfl
      have yS_2 := yS.c 2 _ rfl
      have yS_3 := yS.c 3 _ rfl
      have yS_4 := yS.c 4 _ rfl
      have yS_5 := yS.c 5 _ rfl
      have yS_6 := yS.c 6 _ rfl
      have yS_z := yS.lt
      have yS_f0 := yS.f 0 _ rfl
      have yS_f1 := yS.f 1 _ rfl
      have yS_f2 := yS.f 2 _ rfl
      have yS_f3 := yS.f 3 _ rfl
      have yS_f4 := yS.f 4 _ rfl
      have yS_f5 := yS.f 5 _ rfl
      have yS_f6 := yS.f 6 _ rfl
      clear yS
      go_wp2_with fail
      refine (NX.out _).mono ?_
      rintro e4 w4 ⟨rfl, hb4⟩
      replace HB := Lib.hid (HB.out.trans (hb4.mono HB.out.size))
      replace KZ := Lib.hid (KZ.out.below hb4)
      replace KN := Lib.hid (KN.out.below hb4)
      replace KS := Lib.hid (KS.out.below hb4)
      clear yZ_0 yZ_1 yZ_2 yZ_3 yZ_4 yZ_5 yZ_6 yZ_z yZ_f0 yZ_f1 yZ_f2 yZ_f3 yZ_f4 yZ_f5 yZ_f6 yS_0 yS_1 yS_2 yS_3 yS_4 yS_5 yS_6 yS_z yS_f0 yS_f1 yS_f2 yS_f3 yS_f4 yS_f5 yS_f6
      clear hb4
      have yS := KS.out
      have yS_0 := yS.c 0 _ rfl
      have yS_1 := yS.c 1 _ rfl
      have yS_2 := yS.c 2 _ rfl
      have yS_3 := yS.c 3 _ rfl
      have yS_4 := yS.c 4 _ rfl
      have yS_5 := yS.c 5 _ rfl
      have yS_6 := yS.c 6 _ rfl
      have yS_z := yS.lt
      have yS_f0 := yS.f 0 _ rfl
      have yS_f1 := yS.f 1 _ rfl
      have yS_f2 := yS.f 2 _ rfl
      have yS_f3 := yS.f 3 _ rfl
      have yS_f4 := yS.f 4 _ rfl
      have yS_f5 := yS.f 5 _ rfl
      have yS_f6 := yS.f 6 _ rfl
      clear yS
      go_wp2_with fail
      refine (NY.out _).mono ?_
      rintro e5 w5 ⟨rfl, hb5⟩
      replace HB := Lib.hid (HB.out.trans (hb5.mono HB.out.size))
      replace KZ := Lib.hid (KZ.out.below hb5)
      replace KN := Lib.hid (KN.out.below hb5)
      replace KS := Lib.hid (KS.out.below hb5)
      clear yS_0 yS_1 yS_2 yS_3 yS_4 yS_5 yS_6 yS_z yS_f0 yS_f1 yS_f2 yS_f3 yS_f4 yS_f5 yS_f6
      clear hb5
      have yZ := KZ.out
      have yZ_0 := yZ.c 0 _ rfl
      have yZ_1 := yZ.c 1 _ rfl
      have yZ_2 := yZ.c 2 _ rfl
      have yZ_3 := yZ.c 3 _ rfl
      have yZ_4 := yZ.c 4 _ rfl
      have yZ_5 := yZ.c 5 _ rfl
      have yZ_6 := yZ.c 6 _ rfl
      have yZ_z := yZ.lt
      have yZ_f0 := yZ.f 0 _ rfl
      have yZ_f1 := yZ.f 1 _ rfl
      have yZ_f2 := yZ.f 2 _ rfl
      have yZ_f3 := yZ.f 3 _ rfl
      have yZ_f4 := yZ.f 4 _ rfl
      have yZ_f5 := yZ.f 5 _ rfl
      have yZ_f6 := yZ.f 6 _ rfl
      clear yZ
      have yS := KS.out
      have yS_0 := yS.c 0 _ rfl
      have yS_1 := yS.c 1 _ rfl
      have yS_2 := yS.c 2 _ rfl
      have yS_3 := yS.c 3 _ rfl
      have yS_4 := yS.c 4 _ rfl
      have yS_5 := yS.c 5 _ rfl
      have yS_6 := yS.c 6 _ rfl
      have yS_z := yS.lt
      have yS_f0 := yS.f 0 _ rfl
      have yS_f1 := yS.f 1 _ rfl
      have yS_f2 := yS.f 2 _ rfl
      have yS_f3 := yS.f 3 _ rfl
      have yS_f4 := yS.f 4 _ rfl
      have yS_f5 := yS.f 5 _ rfl
      have yS_f6 := yS.f 6 _ rfl
      clear yS
      go_wp2
      replace KZ := Lib.hid (blk_other (b := w.heap.size) (n := bS) (j := 6) (blk_other (b := w.heap.size) (n := bS) (j := 5) KZ.out (by omega) (.int .i64 0)) (by omega) (.int .i64 uy))
      replace KN := Lib.hid (blk_other (b := bN) (n := bS) (j := 6) (blk_other (b := bN) (n := bS) (j := 5) KN.out (by omega) (.int .i64 0)) (by omega) (.int .i64 uy))
      replace KS := Lib.hid (blk_set (blk_set KS.out (j := 5) (by simp) (.int .i64 0)) (j := 6) (by simp) (.int .i64 uy))
      replace HB := Lib.hid ((HB.out.setCell (p := ⟨bS, 5, none⟩) (show w.heap.size ≤ bS by omega) (.int .i64 0)).setCell (p := ⟨bS, 6, none⟩) (show w.heap.size ≤ bS by omega) (.int .i64 uy))
      clear yZ_0 yZ_1 yZ_2 yZ_3 yZ_4 yZ_5 yZ_6 yZ_z yZ_f0 yZ_f1 yZ_f2 yZ_f3 yZ_f4 yZ_f5 yZ_f6 yS_0 yS_1 yS_2 yS_3 yS_4 yS_5 yS_6 yS_z yS_f0 yS_f1 yS_f2 yS_f3 yS_f4 yS_f5 yS_f6
      generalize (w5.setCell ⟨bS, 5, none⟩ (.int .i64 0)).setCell ⟨bS, 6, none⟩ (.int .i64 uy) = w6 at *
      simp only [List.set] at KS
      replace KZ := Lib.hid (blk_set (blk_set (blk_set (blk_set (blk_set (blk_set (blk_set KZ.out (j := 0) (by simp) (.int .i64 0)) (j := 1) (by simp) (.int .u64 0)) (j := 2) (by simp) (.int .i64 0)) (j := 3) (by simp) (.int .u64 0)) (j := 4) (by simp) (.int .i64 0)) (j := 5) (by simp) (.int .i64 0)) (j := 6) (by simp) (.int .i64 0))
      replace KN := Lib.hid (blk_other (b := bN) (n := w.heap.size) (j := 6) (blk_other (b := bN) (n := w.heap.size) (j := 5) (blk_other (b := bN) (n := w.heap.size) (j := 4) (blk_other (b := bN) (n := w.heap.size) (j := 3) (blk_other (b := bN) (n := w.heap.size) (j := 2) (blk_other (b := bN) (n := w.heap.size) (j := 1) (blk_other (b := bN) (n := w.heap.size) (j := 0) KN.out (by omega) (.int .i64 0)) (by omega) (.int .u64 0)) (by omega) (.int .i64 0)) (by omega) (.int .u64 0)) (by omega) (.int .i64 0)) (by omega) (.int .i64 0)) (by omega) (.int .i64 0))
      replace KS := Lib.hid (blk_other (b := bS) (n := w.heap.size) (j := 6) (blk_other (b := bS) (n := w.heap.size) (j := 5) (blk_other (b := bS) (n := w.heap.size) (j := 4) (blk_other (b := bS) (n := w.heap.size) (j := 3) (blk_other (b := bS) (n := w.heap.size) (j := 2) (blk_other (b := bS) (n := w.heap.size) (j := 1) (blk_other (b := bS) (n := w.heap.size) (j := 0) KS.out (by omega) (.int .i64 0)) (by omega) (.int .u64 0)) (by omega) (.int .i64 0)) (by omega) (.int .u64 0)) (by omega) (.int .i64 0)) (by omega) (.int .i64 0)) (by omega) (.int .i64 0))
      replace HB := Lib.hid (((((((HB.out.setCell (p := ⟨w.heap.size, 0, none⟩) (show w.heap.size ≤ w.heap.size by omega) (.int .i64 0)).setCell (p := ⟨w.heap.size, 1, none⟩) (show w.heap.size ≤ w.heap.size by omega) (.int .u64 0)).setCell (p := ⟨w.heap.size, 2, none⟩) (show w.heap.size ≤ w.heap.size by omega) (.int .i64 0)).setCell (p := ⟨w.heap.size, 3, none⟩) (show w.heap.size ≤ w.heap.size by omega) (.int .u64 0)).setCell (p := ⟨w.heap.size, 4, none⟩) (show w.heap.size ≤ w.heap.size by omega) (.int .i64 0)).setCell (p := ⟨w.heap.size, 5, none⟩) (show w.heap.size ≤ w.heap.size by omega) (.int .i64 0)).setCell (p := ⟨w.heap.size, 6, none⟩) (show w.heap.size ≤ w.heap.size by omega) (.int .i64 0))
      generalize ((((((w6.setCell ⟨w.heap.size, 0, none⟩ (.int .i64 0)).setCell ⟨w.heap.size, 1, none⟩ (.int .u64 0)).setCell ⟨w.heap.size, 2, none⟩ (.int .i64 0)).setCell ⟨w.heap.size, 3, none⟩ (.int .u64 0)).setCell ⟨w.heap.size, 4, none⟩ (.int .i64 0)).setCell ⟨w.heap.size, 5, none⟩ (.int .i64 0)).setCell ⟨w.heap.size, 6, none⟩ (.int .i64 0) = w7 at *
      simp only [List.set] at KZ
      have yZ := KZ.out
      have yZ_0 := yZ.c 0 _ rfl
      have yZ_1 := yZ.c 1 _ rfl
      have yZ_2 := yZ.c 2 _ rfl
      have yZ_3 := yZ.c 3 _ rfl
      have yZ_4 := yZ.c 4 _ rfl
      have yZ_5 := yZ.c 5 _ rfl
      have yZ_6 := yZ.c 6 _ rfl
      have yZ_z := yZ.lt
      clear yZ
      refine bodyPost_ret (v := .tuple #[.agg #[.int .i64 0, .int .u64 0, .int .i64 0, .int .u64 0, .int .i64 0, .int .i64 0, .int .i64 0], .int .i64 2]) (by simp [results, Tryz.results28, go_sem, yZ_0, yZ_1, yZ_2, yZ_3, yZ_4, yZ_5, yZ_6]) rfl ⟨by rw [HE.out], HB.out⟩
set_option maxHeartbeats 40000000 in
set_option maxRecDepth 100000 in
theorem sol_ok (l : List Ms) (v : Value) (w : World) (h : LstAt l v w) (hs : solE l = 0) :
    Calls Tryz.prog 28 #[v] w fun e w' => e = .returned (.tuple #[.agg #[.int .i64 (hiW (solX l)), .int .u64 (loW (solX l)), .int .i64 (hiW (solY l)), .int .u64 (loW (solY l)), .int .i64 (detN l), .int .i64 (cenX l), .int .i64 (cenY l)], .int .i64 0]) ∧ Below w.heap.size w w' := by
  have hc := (sol_chk hs).1
  obtain ⟨p, cap, rfl⟩ := lst_form h
  have OL := Lib.hid (okL_of hc)
  obtain ⟨⟨a0, a1⟩, ⟨b0, b1⟩, ⟨c0, c1⟩, ⟨d0, d1⟩, ⟨e0, e1⟩⟩ := nrm_bd OL.out
  obtain ⟨⟨dt0, dt1⟩, ⟨sx0, sx1⟩, ⟨sy0, sy1⟩⟩ := sol_bd (nrm_bd OL.out)
  have NO := Lib.hid fun w h => normal_any l (.slice p l.length cap) w h hc
  have P1 := mulb (X := 16777216) (Y := 16777216) (by omega) a0 a1 c0 c1
  have P2 := mulb (X := 16777216) (Y := 16777216) (by omega) b0 b1 b0 b1
  have LX := Lib.hid fun w => lsq_less (nYY l) (nXZ l) (nXY l) (nYZ l) w ⟨by omega, by omega⟩ ⟨by omega, by omega⟩ ⟨by omega, by omega⟩ ⟨by omega, by omega⟩ (show FitW (solX l) from ⟨by omega, by omega⟩)
  have LY := Lib.hid fun w => lsq_less (nXX l) (nYZ l) (nXY l) (nXZ l) w ⟨by omega, by omega⟩ ⟨by omega, by omega⟩ ⟨by omega, by omega⟩ ⟨by omega, by omega⟩ (show FitW (solY l) from ⟨by omega, by omega⟩)
  have q1 : IntKind.i64.wrap (nXX l * nYY l) = nXX l * nYY l := IntWalk.i64_in _ (by omega)
  have q2 : IntKind.i64.wrap (nXY l * nXY l) = nXY l * nXY l := IntWalk.i64_in _ (by omega)
  have q3 : IntKind.i64.wrap (nXX l * nYY l - nXY l * nXY l) = detN l := IntWalk.i64_in _ (by unfold detN at dt0 dt1; omega)
  have HX : Hid (solX l = nYY l * nXZ l - nXY l * nYZ l) := Lib.hid rfl
  have HY : Hid (solY l = nXX l * nYZ l - nXY l * nXZ l) := Lib.hid rfl
  rw [← HX.out] at LX
  rw [← HY.out] at LY
  have NX := Lib.hid fun (hd : 0 < detN l) w => nearest_any (solX l) (detN l) w (by omega) (by omega) hd (by omega)
  have NY := Lib.hid fun (hd : 0 < detN l) w => nearest_any (solY l) (detN l) w (by omega) (by omega) hd (by omega)
  have VP := Lib.hid fun w => vldP_any (cenX l) (cenY l) w
  have E0 : solE l = if detN l = 0 then 14 else if (pOk (cenX l) && pOk (cenY l)) = true then 0 else 2 := by unfold solE; rw [if_pos hc]
  have HDP : detN l ≠ 0 → 0 < detN l := fun q => by have := det_nonneg l (chk_w hc); omega
  rw [show nearI2 (solX l) (detN l) = cenX l from rfl] at NX
  rw [show nearI2 (solY l) (detN l) = cenY l from rfl] at NY
  clear hc a0 a1 b0 b1 c0 c1 d0 d1 e0 e1 dt0 dt1 sx0 sx1 sy0 sy1 P1 P2 HX HY
  obtain ⟨A, EA⟩ : ∃ x, nXX l = x := ⟨_, rfl⟩
  obtain ⟨B, EB⟩ : ∃ x, nXY l = x := ⟨_, rfl⟩
  obtain ⟨C, EC⟩ : ∃ x, nYY l = x := ⟨_, rfl⟩
  obtain ⟨D, ED⟩ : ∃ x, nXZ l = x := ⟨_, rfl⟩
  obtain ⟨E, EE⟩ : ∃ x, nYZ l = x := ⟨_, rfl⟩
  obtain ⟨X, EX⟩ : ∃ x, solX l = x := ⟨_, rfl⟩
  obtain ⟨Y, EY⟩ : ∃ x, solY l = x := ⟨_, rfl⟩
  obtain ⟨T, ET⟩ : ∃ x, detN l = x := ⟨_, rfl⟩
  rw [EA, EB, EC, ED, EE] at NO
  rw [EC, ED, EB, EE, EX] at LX
  rw [EA, EE, EB, ED, EY] at LY
  rw [EA, EC] at q1
  rw [EB] at q2
  rw [EA, EB, EC, ET] at q3
  rw [ET, EX] at NX
  rw [ET, EY] at NY
  rw [ET] at E0 HDP
  have HX := Lib.hid EX
  have HY := Lib.hid EY
  have HT := Lib.hid ET
  clear EA EB EC ED EE EX EY ET
  obtain ⟨cx, hcx⟩ : ∃ x, cenX l = x := ⟨_, rfl⟩
  obtain ⟨cy, hcy⟩ : ∃ x, cenY l = x := ⟨_, rfl⟩
  rw [hcx] at NX
  rw [hcy] at NY
  rw [hcx, hcy] at VP E0
  have HCX := Lib.hid hcx
  have HCY := Lib.hid hcy
  clear hcx hcy
  have PV : (pOk cx && pOk cy) = vldP cx cy := by unfold pOk vldP; rw [Bool.eq_iff_iff]; simp only [Bool.and_eq_true, decide_eq_true_eq]; omega
  have PI : vldP cx cy = true → I64 cx ∧ I64 cy := fun h => by have := vldP_iff.1 h; exact ⟨⟨by omega, by omega⟩, by omega, by omega⟩
  rw [PV] at E0
  clear PV
  unfold wv at LX LY NX NY
  rw [hs] at E0
  clear hs
  have ht : T ≠ 0 := fun q => by rw [if_pos q] at E0; cases E0
  have hv : vldP cx cy = true := by
    rw [if_neg ht] at E0
    cases hv : vldP cx cy with
    | true => rfl
    | false => rw [hv, if_neg (by simp)] at E0; cases E0
  have g : (T == 0) = false := by simpa using ht
  have NX := Lib.hid (NX.out (HDP ht))
  have NY := Lib.hid (NY.out (HDP ht))
  obtain ⟨ix, iy⟩ := PI hv
  rw [if_pos ix, decide_eq_true ix] at NX
  rw [if_pos iy, decide_eq_true iy] at NY
  rw [hv] at VP
  clear E0 HDP PI ht hv ix iy
  have H0 := Lib.hid h
  have KZ := Lib.hid (Blk.of (vs := #[.int .i64 0, .int .u64 0, .int .i64 0, .int .u64 0, .int .i64 0, .int .i64 0, .int .i64 0]) (t := 81) (w := w) (b := w.heap.size) (by simp))
  have HB := Lib.hid ((Below.refl w.heap.size w).alloc (by simp; try omega) (.cells #[.int .i64 0, .int .u64 0, .int .i64 0, .int .u64 0, .int .i64 0, .int .i64 0, .int .i64 0] 81))
  go_enter Tryz.func28, Tryz.ntmps28
  clear h
  go_wp2_with fail
  generalize w.alloc (.cells #[.int .i64 0, .int .u64 0, .int .i64 0, .int .u64 0, .int .i64 0, .int .i64 0, .int .i64 0] 81) = w0 at *
  refine (NO.out _ (H0.out.below HB.out)).mono ?_
  rintro e1 w1 ⟨rfl, hb1⟩
  replace HB := Lib.hid (HB.out.trans (hb1.mono HB.out.size))
  replace KZ := Lib.hid (KZ.out.below hb1)
  clear hb1
  go_wp2_with fail
  have KN := Lib.hid (Blk.of (vs := #[.int .i64 A, .int .i64 B, .int .i64 C, .int .i64 D, .int .i64 E]) (t := 112) (w := w1) (b := w1.heap.size) rfl)
  have hb2 : Below w1.heap.size w1 (w1.alloc (.cells #[.int .i64 A, .int .i64 B, .int .i64 C, .int .i64 D, .int .i64 E] 112)) := (Below.refl _ _).alloc (Nat.le_refl _) _
  have hnN := HB.out.size
  have nzN_Z := KZ.out.lt
  replace HB := Lib.hid (HB.out.trans (hb2.mono HB.out.size))
  replace KZ := Lib.hid (KZ.out.below hb2)
  clear hb2
  generalize w1.alloc (.cells #[.int .i64 A, .int .i64 B, .int .i64 C, .int .i64 D, .int .i64 E] 112) = w2 at *
  generalize w1.heap.size = bN at *
  have neN_Z : bN ≠ w.heap.size := by omega
  clear nzN_Z
  have BD := Lib.hid (show Below w2.heap.size w2 w2.drew from ⟨rfl, rfl, rfl, Nat.le_refl _, fun _ _ => rfl⟩)
  have BD2 := Lib.hid (below_drew_alloc w2 (.cells #[.int .i64 0, .int .u64 0, .int .i64 0, .int .u64 0, .int .i64 0, .int .i64 0, .int .i64 0] 81))
  have DLX := Lib.hid fun W (h : Below w2.heap.size w2 W) => (LX.out W).mono fun e w' ⟨h1, h2⟩ => show _ ∧ Below w2.heap.size w2 w' ∧ Below W.heap.size W w' from ⟨h1, h.trans (h2.mono h.size), h2⟩
  have DLY := Lib.hid fun W (h : Below w2.heap.size w2 W) => (LY.out W).mono fun e w' ⟨h1, h2⟩ => show _ ∧ Below w2.heap.size w2 w' ∧ Below W.heap.size W w' from ⟨h1, h.trans (h2.mono h.size), h2⟩
  have yN := KN.out
  have yN_0 := yN.c 0 _ rfl
  have yN_1 := yN.c 1 _ rfl
  have yN_2 := yN.c 2 _ rfl
  have yN_3 := yN.c 3 _ rfl
  have yN_4 := yN.c 4 _ rfl
  have yN_z := yN.lt
  clear yN
  apply wp_join (R := fun b w' => w.heap.size ≤ b ∧ b ≠ w.heap.size ∧ b ≠ bN ∧ Hid (Below w.heap.size w w') ∧ Hid (Blk [.int .i64 (hiW X), .int .u64 (loW X), .int .i64 (hiW Y), .int .u64 (loW Y), .int .i64 T, .int .i64 0, .int .i64 0] b w') ∧ Hid (Blk [.int .i64 0, .int .u64 0, .int .i64 0, .int .u64 0, .int .i64 0, .int .i64 0, .int .i64 0] w.heap.size w') ∧ Hid (Blk [.int .i64 A, .int .i64 B, .int .i64 C, .int .i64 D, .int .i64 E] bN w'))
  · go_region_held3 (fun w' => w'.cell? ⟨bN, 0, none⟩ = some (.int .i64 A) ∧ w'.cell? ⟨bN, 1, none⟩ = some (.int .i64 B) ∧ w'.cell? ⟨bN, 2, none⟩ = some (.int .i64 C) ∧ w'.cell? ⟨bN, 3, none⟩ = some (.int .i64 D) ∧ w'.cell? ⟨bN, 4, none⟩ = some (.int .i64 E)) (first | (refine ⟨?_, ?_, ?_, ?_, ?_⟩ <;> first | with_reducible assumption | (rw [far7 KV.out.1 yN_z]; with_reducible assumption)) | go_keep)
      (first
        | (go_at_call 54; with_reducible refine Calls.mono (DLX.out _ (by first | with_reducible exact BD.out | with_reducible exact BD2.out | with_reducible exact HX.out | with_reducible exact HX.out.alloc HX.out.size _)) ?_; rintro e9 w9 ⟨rfl, hb9, hc9⟩; have pN := KN.out.below hb9; have qN0 := pN.c 0 _ rfl; have qN1 := pN.c 1 _ rfl; have qN2 := pN.c 2 _ rfl; have qN3 := pN.c 3 _ rfl; have qN4 := pN.c 4 _ rfl; clear pN; (first | (with_reducible have KV := Lib.hid (kv_drew (vs := #[.int .i64 0, .int .u64 0, .int .i64 0, .int .u64 0, .int .i64 0, .int .i64 0, .int .i64 0]) (t := 81) hc9); have pV := KV.out.2; have v0 := pV.c 0 _ rfl; have vf0 := pV.f 0 _ rfl; have v1 := pV.c 1 _ rfl; have vf1 := pV.f 1 _ rfl; have v2 := pV.c 2 _ rfl; have vf2 := pV.f 2 _ rfl; have v3 := pV.c 3 _ rfl; have vf3 := pV.f 3 _ rfl; have v4 := pV.c 4 _ rfl; have vf4 := pV.f 4 _ rfl; have v5 := pV.c 5 _ rfl; have vf5 := pV.f 5 _ rfl; have v6 := pV.c 6 _ rfl; have vf6 := pV.f 6 _ rfl; have v9 := pV.lt; clear pV) | (with_reducible have KV := Lib.hid (kv_new (vs := #[.int .i64 0, .int .u64 0, .int .i64 0, .int .u64 0, .int .i64 0, .int .i64 0, .int .i64 0]) (t := 81) HX.out hc9); have pV := KV.out.2; have v0 := pV.c 0 _ rfl; have vf0 := pV.f 0 _ rfl; have v1 := pV.c 1 _ rfl; have vf1 := pV.f 1 _ rfl; have v2 := pV.c 2 _ rfl; have vf2 := pV.f 2 _ rfl; have v3 := pV.c 3 _ rfl; have vf3 := pV.f 3 _ rfl; have v4 := pV.c 4 _ rfl; have vf4 := pV.f 4 _ rfl; have v5 := pV.c 5 _ rfl; have vf5 := pV.f 5 _ rfl; have v6 := pV.c 6 _ rfl; have vf6 := pV.f 6 _ rfl; have v9 := pV.lt; clear pV) | (with_reducible have KV := Lib.hid (kv_old KV.out hc9); have pV := KV.out.2; have v0 := pV.c 0 _ rfl; have vf0 := pV.f 0 _ rfl; have v1 := pV.c 1 _ rfl; have vf1 := pV.f 1 _ rfl; have v2 := pV.c 2 _ rfl; have vf2 := pV.f 2 _ rfl; have v3 := pV.c 3 _ rfl; have vf3 := pV.f 3 _ rfl; have v4 := pV.c 4 _ rfl; have vf4 := pV.f 4 _ rfl; have v5 := pV.c 5 _ rfl; have vf5 := pV.f 5 _ rfl; have v6 := pV.c 6 _ rfl; have vf6 := pV.f 6 _ rfl; have v9 := pV.lt; clear pV) | skip); have HX := Lib.hid hb9; clear hb9 hc9)
        | (go_at_call 54; with_reducible refine Calls.mono (DLY.out _ (by first | with_reducible exact BD.out | with_reducible exact BD2.out | with_reducible exact HX.out | with_reducible exact HX.out.alloc HX.out.size _)) ?_; rintro e9 w9 ⟨rfl, hb9, hc9⟩; have pN := KN.out.below hb9; have qN0 := pN.c 0 _ rfl; have qN1 := pN.c 1 _ rfl; have qN2 := pN.c 2 _ rfl; have qN3 := pN.c 3 _ rfl; have qN4 := pN.c 4 _ rfl; clear pN; (first | (with_reducible have KV := Lib.hid (kv_drew (vs := #[.int .i64 0, .int .u64 0, .int .i64 0, .int .u64 0, .int .i64 0, .int .i64 0, .int .i64 0]) (t := 81) hc9); have pV := KV.out.2; have v0 := pV.c 0 _ rfl; have vf0 := pV.f 0 _ rfl; have v1 := pV.c 1 _ rfl; have vf1 := pV.f 1 _ rfl; have v2 := pV.c 2 _ rfl; have vf2 := pV.f 2 _ rfl; have v3 := pV.c 3 _ rfl; have vf3 := pV.f 3 _ rfl; have v4 := pV.c 4 _ rfl; have vf4 := pV.f 4 _ rfl; have v5 := pV.c 5 _ rfl; have vf5 := pV.f 5 _ rfl; have v6 := pV.c 6 _ rfl; have vf6 := pV.f 6 _ rfl; have v9 := pV.lt; clear pV) | (with_reducible have KV := Lib.hid (kv_new (vs := #[.int .i64 0, .int .u64 0, .int .i64 0, .int .u64 0, .int .i64 0, .int .i64 0, .int .i64 0]) (t := 81) HX.out hc9); have pV := KV.out.2; have v0 := pV.c 0 _ rfl; have vf0 := pV.f 0 _ rfl; have v1 := pV.c 1 _ rfl; have vf1 := pV.f 1 _ rfl; have v2 := pV.c 2 _ rfl; have vf2 := pV.f 2 _ rfl; have v3 := pV.c 3 _ rfl; have vf3 := pV.f 3 _ rfl; have v4 := pV.c 4 _ rfl; have vf4 := pV.f 4 _ rfl; have v5 := pV.c 5 _ rfl; have vf5 := pV.f 5 _ rfl; have v6 := pV.c 6 _ rfl; have vf6 := pV.f 6 _ rfl; have v9 := pV.lt; clear pV) | (with_reducible have KV := Lib.hid (kv_old KV.out hc9); have pV := KV.out.2; have v0 := pV.c 0 _ rfl; have vf0 := pV.f 0 _ rfl; have v1 := pV.c 1 _ rfl; have vf1 := pV.f 1 _ rfl; have v2 := pV.c 2 _ rfl; have vf2 := pV.f 2 _ rfl; have v3 := pV.c 3 _ rfl; have vf3 := pV.f 3 _ rfl; have v4 := pV.c 4 _ rfl; have vf4 := pV.f 4 _ rfl; have v5 := pV.c 5 _ rfl; have vf5 := pV.f 5 _ rfl; have v6 := pV.c 6 _ rfl; have vf6 := pV.f 6 _ rfl; have v9 := pV.lt; clear pV) | skip); have HX := Lib.hid hb9; clear hb9 hc9))
    all_goals
      first
        | (have FN := kv_set7 (.int .i64 (hiW X)) (.int .u64 (loW X)) (.int .i64 (hiW Y)) (.int .u64 (loW Y)) (.int .i64 T) (.int .i64 0) (.int .i64 0) KV.out HX.out; have FB := Lib.hid FN.1; have KS := Lib.hid FN.2.1; have n0S := FN.2.2; clear FN; generalize World.setCell (World.setCell (World.setCell (World.setCell (World.setCell (World.setCell (World.setCell _ _ (.int .i64 (hiW X))) _ (.int .u64 (loW X))) _ (.int .i64 (hiW Y))) _ (.int .u64 (loW Y))) _ (.int .i64 T)) _ (.int .i64 0)) _ (.int .i64 0) = w3 at *)
        | (have FN := kv_putn (vs := #[.int .i64 (hiW X), .int .u64 (loW X), .int .i64 (hiW Y), .int .u64 (loW Y), .int .i64 T, .int .i64 0, .int .i64 0]) (t := 81) HX.out; have FB := Lib.hid FN.1; have KS := Lib.hid FN.2.1; have n0S := FN.2.2; clear FN; generalize (World.alloc _ (.cells #[.int .i64 (hiW X), .int .u64 (loW X), .int .i64 (hiW Y), .int .u64 (loW Y), .int .i64 T, .int .i64 0, .int .i64 0] 81)) = w3 at *)
      have nS := Nat.le_trans HB.out.size n0S
      have neS_Z := Nat.ne_of_gt (Nat.lt_of_lt_of_le KZ.out.lt n0S)
      have neS_N := Nat.ne_of_gt (Nat.lt_of_lt_of_le KN.out.lt n0S)
      replace HB := Lib.hid (HB.out.trans (FB.out.mono HB.out.size))
      replace KZ := Lib.hid (KZ.out.below FB.out)
      replace KN := Lib.hid (KN.out.below FB.out)
      obtain ⟨bS, hbS⟩ := ex_blk KS
      rw [← hbS] at KS nS neS_Z neS_N ⊢
      refine OnlyN.mk ⟨bS, rfl, ?_⟩
      with_reducible exact ⟨nS, neS_Z, neS_N, HB, KS, KZ, KN⟩
  clear BD BD2 DLX DLY yN_0 yN_1 yN_2 yN_3 yN_4 yN_z
  rintro bS w3 ⟨nS, neS_Z, neS_N, HB2, KS, KZ2, KN2⟩
  replace HB := HB2
  clear HB2
  replace KZ := KZ2
  clear KZ2
  replace KN := KN2
  clear KN2
  clear LX LY NO q1 q2 q3
  have yZ := KZ.out
  have yZ_0 := yZ.c 0 _ rfl
  have yZ_1 := yZ.c 1 _ rfl
  have yZ_2 := yZ.c 2 _ rfl
  have yZ_3 := yZ.c 3 _ rfl
  have yZ_4 := yZ.c 4 _ rfl
  have yZ_5 := yZ.c 5 _ rfl
  have yZ_6 := yZ.c 6 _ rfl
  have yZ_z := yZ.lt
  have yZ_f0 := yZ.f 0 _ rfl
  have yZ_f1 := yZ.f 1 _ rfl
  have yZ_f2 := yZ.f 2 _ rfl
  have yZ_f3 := yZ.f 3 _ rfl
  have yZ_f4 := yZ.f 4 _ rfl
  have yZ_f5 := yZ.f 5 _ rfl
  have yZ_f6 := yZ.f 6 _ rfl
  clear yZ
  have yS := KS.out
  have yS_0 := yS.c 0 _ rfl
  have yS_1 := yS.c 1 _ rfl
  have yS_2 := yS.c 2 _ rfl
  have yS_3 := yS.c 3 _ rfl
  have yS_4 := yS.c 4 _ rfl
  have yS_5 := yS.c 5 _ rfl
  have yS_6 := yS.c 6 _ rfl
  have yS_z := yS.lt
  have yS_f0 := yS.f 0 _ rfl
  have yS_f1 := yS.f 1 _ rfl
  have yS_f2 := yS.f 2 _ rfl
  have yS_f3 := yS.f 3 _ rfl
  have yS_f4 := yS.f 4 _ rfl
  have yS_f5 := yS.f 5 _ rfl
  have yS_f6 := yS.f 6 _ rfl
  clear yS
  go_wp2_with fail
  refine (NX.out _).mono ?_
  rintro e4 w4 ⟨rfl, hb4⟩
  replace HB := Lib.hid (HB.out.trans (hb4.mono HB.out.size))
  replace KZ := Lib.hid (KZ.out.below hb4)
  replace KN := Lib.hid (KN.out.below hb4)
  replace KS := Lib.hid (KS.out.below hb4)
  clear yZ_0 yZ_1 yZ_2 yZ_3 yZ_4 yZ_5 yZ_6 yZ_z yZ_f0 yZ_f1 yZ_f2 yZ_f3 yZ_f4 yZ_f5 yZ_f6 yS_0 yS_1 yS_2 yS_3 yS_4 yS_5 yS_6 yS_z yS_f0 yS_f1 yS_f2 yS_f3 yS_f4 yS_f5 yS_f6
  clear hb4
  have yS := KS.out
  have yS_0 := yS.c 0 _ rfl
  have yS_1 := yS.c 1 _ rfl
  have yS_2 := yS.c 2 _ rfl
  have yS_3 := yS.c 3 _ rfl
  have yS_4 := yS.c 4 _ rfl
  have yS_5 := yS.c 5 _ rfl
  have yS_6 := yS.c 6 _ rfl
  have yS_z := yS.lt
  have yS_f0 := yS.f 0 _ rfl
  have yS_f1 := yS.f 1 _ rfl
  have yS_f2 := yS.f 2 _ rfl
  have yS_f3 := yS.f 3 _ rfl
  have yS_f4 := yS.f 4 _ rfl
  have yS_f5 := yS.f 5 _ rfl
  have yS_f6 := yS.f 6 _ rfl
  clear yS
  go_wp2_with fail
  refine (NY.out _).mono ?_
  rintro e5 w5 ⟨rfl, hb5⟩
  replace HB := Lib.hid (HB.out.trans (hb5.mono HB.out.size))
  replace KZ := Lib.hid (KZ.out.below hb5)
  replace KN := Lib.hid (KN.out.below hb5)
  replace KS := Lib.hid (KS.out.below hb5)
  clear yS_0 yS_1 yS_2 yS_3 yS_4 yS_5 yS_6 yS_z yS_f0 yS_f1 yS_f2 yS_f3 yS_f4 yS_f5 yS_f6
  clear hb5
  have yZ := KZ.out
  have yZ_0 := yZ.c 0 _ rfl
  have yZ_1 := yZ.c 1 _ rfl
  have yZ_2 := yZ.c 2 _ rfl
  have yZ_3 := yZ.c 3 _ rfl
  have yZ_4 := yZ.c 4 _ rfl
  have yZ_5 := yZ.c 5 _ rfl
  have yZ_6 := yZ.c 6 _ rfl
  have yZ_z := yZ.lt
  have yZ_f0 := yZ.f 0 _ rfl
  have yZ_f1 := yZ.f 1 _ rfl
  have yZ_f2 := yZ.f 2 _ rfl
  have yZ_f3 := yZ.f 3 _ rfl
  have yZ_f4 := yZ.f 4 _ rfl
  have yZ_f5 := yZ.f 5 _ rfl
  have yZ_f6 := yZ.f 6 _ rfl
  clear yZ
  have yS := KS.out
  have yS_0 := yS.c 0 _ rfl
  have yS_1 := yS.c 1 _ rfl
  have yS_2 := yS.c 2 _ rfl
  have yS_3 := yS.c 3 _ rfl
  have yS_4 := yS.c 4 _ rfl
  have yS_5 := yS.c 5 _ rfl
  have yS_6 := yS.c 6 _ rfl
  have yS_z := yS.lt
  have yS_f0 := yS.f 0 _ rfl
  have yS_f1 := yS.f 1 _ rfl
  have yS_f2 := yS.f 2 _ rfl
  have yS_f3 := yS.f 3 _ rfl
  have yS_f4 := yS.f 4 _ rfl
  have yS_f5 := yS.f 5 _ rfl
  have yS_f6 := yS.f 6 _ rfl
  clear yS
  go_wp2_with fail
  replace KZ := Lib.hid (blk_other (b := w.heap.size) (n := bS) (j := 6) (blk_other (b := w.heap.size) (n := bS) (j := 5) KZ.out (by omega) (.int .i64 cx)) (by omega) (.int .i64 cy))
  replace KN := Lib.hid (blk_other (b := bN) (n := bS) (j := 6) (blk_other (b := bN) (n := bS) (j := 5) KN.out (by omega) (.int .i64 cx)) (by omega) (.int .i64 cy))
  replace KS := Lib.hid (blk_set (blk_set KS.out (j := 5) (by simp) (.int .i64 cx)) (j := 6) (by simp) (.int .i64 cy))
  replace HB := Lib.hid ((HB.out.setCell (p := ⟨bS, 5, none⟩) (show w.heap.size ≤ bS by omega) (.int .i64 cx)).setCell (p := ⟨bS, 6, none⟩) (show w.heap.size ≤ bS by omega) (.int .i64 cy))
  clear yZ_0 yZ_1 yZ_2 yZ_3 yZ_4 yZ_5 yZ_6 yZ_z yZ_f0 yZ_f1 yZ_f2 yZ_f3 yZ_f4 yZ_f5 yZ_f6 yS_0 yS_1 yS_2 yS_3 yS_4 yS_5 yS_6 yS_z yS_f0 yS_f1 yS_f2 yS_f3 yS_f4 yS_f5 yS_f6
  generalize (w5.setCell ⟨bS, 5, none⟩ (.int .i64 cx)).setCell ⟨bS, 6, none⟩ (.int .i64 cy) = w6 at *
  simp only [List.set] at KS
  refine (VP.out _).mono ?_
  rintro e7 w7 ⟨rfl, hb7⟩
  replace HB := Lib.hid (HB.out.trans (hb7.mono HB.out.size))
  replace KZ := Lib.hid (KZ.out.below hb7)
  replace KN := Lib.hid (KN.out.below hb7)
  replace KS := Lib.hid (KS.out.below hb7)
  clear hb7
  have yZ := KZ.out
  have yZ_0 := yZ.c 0 _ rfl
  have yZ_1 := yZ.c 1 _ rfl
  have yZ_2 := yZ.c 2 _ rfl
  have yZ_3 := yZ.c 3 _ rfl
  have yZ_4 := yZ.c 4 _ rfl
  have yZ_5 := yZ.c 5 _ rfl
  have yZ_6 := yZ.c 6 _ rfl
  have yZ_z := yZ.lt
  have yZ_f0 := yZ.f 0 _ rfl
  have yZ_f1 := yZ.f 1 _ rfl
  have yZ_f2 := yZ.f 2 _ rfl
  have yZ_f3 := yZ.f 3 _ rfl
  have yZ_f4 := yZ.f 4 _ rfl
  have yZ_f5 := yZ.f 5 _ rfl
  have yZ_f6 := yZ.f 6 _ rfl
  clear yZ
  have yS := KS.out
  have yS_0 := yS.c 0 _ rfl
  have yS_1 := yS.c 1 _ rfl
  have yS_2 := yS.c 2 _ rfl
  have yS_3 := yS.c 3 _ rfl
  have yS_4 := yS.c 4 _ rfl
  have yS_5 := yS.c 5 _ rfl
  have yS_6 := yS.c 6 _ rfl
  have yS_z := yS.lt
  have yS_f0 := yS.f 0 _ rfl
  have yS_f1 := yS.f 1 _ rfl
  have yS_f2 := yS.f 2 _ rfl
  have yS_f3 := yS.f 3 _ rfl
  have yS_f4 := yS.f 4 _ rfl
  have yS_f5 := yS.f 5 _ rfl
  have yS_f6 := yS.f 6 _ rfl
  clear yS
  go_wp2
  replace KZ := Lib.hid (blk_set (blk_set (blk_set (blk_set (blk_set (blk_set (blk_set KZ.out (j := 0) (by simp) (.int .i64 (hiW X))) (j := 1) (by simp) (.int .u64 (loW X))) (j := 2) (by simp) (.int .i64 (hiW Y))) (j := 3) (by simp) (.int .u64 (loW Y))) (j := 4) (by simp) (.int .i64 T)) (j := 5) (by simp) (.int .i64 cx)) (j := 6) (by simp) (.int .i64 cy))
  replace KN := Lib.hid (blk_other (b := bN) (n := w.heap.size) (j := 6) (blk_other (b := bN) (n := w.heap.size) (j := 5) (blk_other (b := bN) (n := w.heap.size) (j := 4) (blk_other (b := bN) (n := w.heap.size) (j := 3) (blk_other (b := bN) (n := w.heap.size) (j := 2) (blk_other (b := bN) (n := w.heap.size) (j := 1) (blk_other (b := bN) (n := w.heap.size) (j := 0) KN.out (by omega) (.int .i64 (hiW X))) (by omega) (.int .u64 (loW X))) (by omega) (.int .i64 (hiW Y))) (by omega) (.int .u64 (loW Y))) (by omega) (.int .i64 T)) (by omega) (.int .i64 cx)) (by omega) (.int .i64 cy))
  replace KS := Lib.hid (blk_other (b := bS) (n := w.heap.size) (j := 6) (blk_other (b := bS) (n := w.heap.size) (j := 5) (blk_other (b := bS) (n := w.heap.size) (j := 4) (blk_other (b := bS) (n := w.heap.size) (j := 3) (blk_other (b := bS) (n := w.heap.size) (j := 2) (blk_other (b := bS) (n := w.heap.size) (j := 1) (blk_other (b := bS) (n := w.heap.size) (j := 0) KS.out (by omega) (.int .i64 (hiW X))) (by omega) (.int .u64 (loW X))) (by omega) (.int .i64 (hiW Y))) (by omega) (.int .u64 (loW Y))) (by omega) (.int .i64 T)) (by omega) (.int .i64 cx)) (by omega) (.int .i64 cy))
  replace HB := Lib.hid (((((((HB.out.setCell (p := ⟨w.heap.size, 0, none⟩) (show w.heap.size ≤ w.heap.size by omega) (.int .i64 (hiW X))).setCell (p := ⟨w.heap.size, 1, none⟩) (show w.heap.size ≤ w.heap.size by omega) (.int .u64 (loW X))).setCell (p := ⟨w.heap.size, 2, none⟩) (show w.heap.size ≤ w.heap.size by omega) (.int .i64 (hiW Y))).setCell (p := ⟨w.heap.size, 3, none⟩) (show w.heap.size ≤ w.heap.size by omega) (.int .u64 (loW Y))).setCell (p := ⟨w.heap.size, 4, none⟩) (show w.heap.size ≤ w.heap.size by omega) (.int .i64 T)).setCell (p := ⟨w.heap.size, 5, none⟩) (show w.heap.size ≤ w.heap.size by omega) (.int .i64 cx)).setCell (p := ⟨w.heap.size, 6, none⟩) (show w.heap.size ≤ w.heap.size by omega) (.int .i64 cy))
  clear yZ_0 yZ_1 yZ_2 yZ_3 yZ_4 yZ_5 yZ_6 yZ_z yZ_f0 yZ_f1 yZ_f2 yZ_f3 yZ_f4 yZ_f5 yZ_f6 yS_0 yS_1 yS_2 yS_3 yS_4 yS_5 yS_6 yS_z yS_f0 yS_f1 yS_f2 yS_f3 yS_f4 yS_f5 yS_f6
  generalize ((((((w7.setCell ⟨w.heap.size, 0, none⟩ (.int .i64 (hiW X))).setCell ⟨w.heap.size, 1, none⟩ (.int .u64 (loW X))).setCell ⟨w.heap.size, 2, none⟩ (.int .i64 (hiW Y))).setCell ⟨w.heap.size, 3, none⟩ (.int .u64 (loW Y))).setCell ⟨w.heap.size, 4, none⟩ (.int .i64 T)).setCell ⟨w.heap.size, 5, none⟩ (.int .i64 cx)).setCell ⟨w.heap.size, 6, none⟩ (.int .i64 cy) = w8 at *
  simp only [List.set] at KZ
  have yZ := KZ.out
  have yZ_0 := yZ.c 0 _ rfl
  have yZ_1 := yZ.c 1 _ rfl
  have yZ_2 := yZ.c 2 _ rfl
  have yZ_3 := yZ.c 3 _ rfl
  have yZ_4 := yZ.c 4 _ rfl
  have yZ_5 := yZ.c 5 _ rfl
  have yZ_6 := yZ.c 6 _ rfl
  have yZ_z := yZ.lt
  clear yZ
  refine bodyPost_ret (v := .tuple #[.agg #[.int .i64 (hiW X), .int .u64 (loW X), .int .i64 (hiW Y), .int .u64 (loW Y), .int .i64 T, .int .i64 cx, .int .i64 cy], .int .i64 0]) (by simp [results, Tryz.results28, go_sem, yZ_0, yZ_1, yZ_2, yZ_3, yZ_4, yZ_5, yZ_6]) rfl ⟨by rw [HX.out, HY.out, HT.out, HCX.out, HCY.out], HB.out⟩
set_option maxHeartbeats 8000000 in
set_option maxRecDepth 100000 in
theorem sol_bad (l : List Ms) (v : Value) (w : World) (h : LstAt l v w) (hs : solE l ≠ 0) :
    Calls Tryz.prog 28 #[v] w fun e w' => e = .returned (.tuple #[.agg #[.int .i64 0, .int .u64 0, .int .i64 0, .int .u64 0, .int .i64 0, .int .i64 0, .int .i64 0], .int .i64 (solE l)]) ∧ Below w.heap.size w w' := by
  by_cases hc : chkL l = 0
  · exact sol_bad0 l v w h hc hs
  · rw [chk_sol hc]
    clear hs
    obtain ⟨p, cap, rfl⟩ := lst_form h
    have NO := Lib.hid fun w h => normal_bad l (.slice p l.length cap) w h hc
    have g : (chkL l != 0) = true := by simpa using hc
    have g' : (chkL l == 0) = false := by simpa using hc
    clear hc
    generalize chkL l = c at *
    have H0 := Lib.hid h
    have KZ := Lib.hid (Blk.of (vs := #[.int .i64 0, .int .u64 0, .int .i64 0, .int .u64 0, .int .i64 0, .int .i64 0, .int .i64 0]) (t := 81) (w := w) (b := w.heap.size) (by simp))
    have HB := Lib.hid ((Below.refl w.heap.size w).alloc (by simp; try omega) (.cells #[.int .i64 0, .int .u64 0, .int .i64 0, .int .u64 0, .int .i64 0, .int .i64 0, .int .i64 0] 81))
    go_enter Tryz.func28, Tryz.ntmps28
    clear h
    go_wp2_with fail
    generalize w.alloc (.cells #[.int .i64 0, .int .u64 0, .int .i64 0, .int .u64 0, .int .i64 0, .int .i64 0, .int .i64 0] 81) = w0 at *
    refine (NO.out _ (H0.out.below HB.out)).mono ?_
    rintro e1 w1 ⟨rfl, hb1⟩
    replace HB := Lib.hid (HB.out.trans (hb1.mono HB.out.size))
    replace KZ := Lib.hid (KZ.out.below hb1)
    clear hb1
    have yZ := KZ.out
    have yZ_0 := yZ.c 0 _ rfl
    have yZ_1 := yZ.c 1 _ rfl
    have yZ_2 := yZ.c 2 _ rfl
    have yZ_3 := yZ.c 3 _ rfl
    have yZ_4 := yZ.c 4 _ rfl
    have yZ_5 := yZ.c 5 _ rfl
    have yZ_6 := yZ.c 6 _ rfl
    have yZ_z := yZ.lt
    have yZ_f0 := yZ.f 0 _ rfl
    have yZ_f1 := yZ.f 1 _ rfl
    have yZ_f2 := yZ.f 2 _ rfl
    have yZ_f3 := yZ.f 3 _ rfl
    have yZ_f4 := yZ.f 4 _ rfl
    have yZ_f5 := yZ.f 5 _ rfl
    have yZ_f6 := yZ.f 6 _ rfl
    clear yZ
    go_wp2
    replace KZ := Lib.hid (blk_set (blk_set (blk_set (blk_set (blk_set (blk_set (blk_set KZ.out (j := 0) (by simp) (.int .i64 0)) (j := 1) (by simp) (.int .u64 0)) (j := 2) (by simp) (.int .i64 0)) (j := 3) (by simp) (.int .u64 0)) (j := 4) (by simp) (.int .i64 0)) (j := 5) (by simp) (.int .i64 0)) (j := 6) (by simp) (.int .i64 0))
    replace HB := Lib.hid (((((((HB.out.setCell (p := ⟨w.heap.size, 0, none⟩) (show w.heap.size ≤ w.heap.size by omega) (.int .i64 0)).setCell (p := ⟨w.heap.size, 1, none⟩) (show w.heap.size ≤ w.heap.size by omega) (.int .u64 0)).setCell (p := ⟨w.heap.size, 2, none⟩) (show w.heap.size ≤ w.heap.size by omega) (.int .i64 0)).setCell (p := ⟨w.heap.size, 3, none⟩) (show w.heap.size ≤ w.heap.size by omega) (.int .u64 0)).setCell (p := ⟨w.heap.size, 4, none⟩) (show w.heap.size ≤ w.heap.size by omega) (.int .i64 0)).setCell (p := ⟨w.heap.size, 5, none⟩) (show w.heap.size ≤ w.heap.size by omega) (.int .i64 0)).setCell (p := ⟨w.heap.size, 6, none⟩) (show w.heap.size ≤ w.heap.size by omega) (.int .i64 0))
    clear yZ_0 yZ_1 yZ_2 yZ_3 yZ_4 yZ_5 yZ_6 yZ_z yZ_f0 yZ_f1 yZ_f2 yZ_f3 yZ_f4 yZ_f5 yZ_f6
    generalize ((((((w1.setCell ⟨w.heap.size, 0, none⟩ (.int .i64 0)).setCell ⟨w.heap.size, 1, none⟩ (.int .u64 0)).setCell ⟨w.heap.size, 2, none⟩ (.int .i64 0)).setCell ⟨w.heap.size, 3, none⟩ (.int .u64 0)).setCell ⟨w.heap.size, 4, none⟩ (.int .i64 0)).setCell ⟨w.heap.size, 5, none⟩ (.int .i64 0)).setCell ⟨w.heap.size, 6, none⟩ (.int .i64 0) = w2 at *
    simp only [List.set] at KZ
    have KN := Lib.hid (Blk.of (vs := #[.int .i64 0, .int .i64 0, .int .i64 0, .int .i64 0, .int .i64 0]) (t := 112) (w := w2) (b := w2.heap.size) rfl)
    have hb3 : Below w2.heap.size w2 (w2.alloc (.cells #[.int .i64 0, .int .i64 0, .int .i64 0, .int .i64 0, .int .i64 0] 112)) := (Below.refl _ _).alloc (Nat.le_refl _) _
    have hnN := HB.out.size
    have nzN_Z := KZ.out.lt
    replace HB := Lib.hid (HB.out.trans (hb3.mono HB.out.size))
    replace KZ := Lib.hid (KZ.out.below hb3)
    clear hb3
    generalize w2.alloc (.cells #[.int .i64 0, .int .i64 0, .int .i64 0, .int .i64 0, .int .i64 0] 112) = w3 at *
    generalize w2.heap.size = bN at *
    have neN_Z : bN ≠ w.heap.size := by omega
    clear nzN_Z
    have yZ := KZ.out
    have yZ_0 := yZ.c 0 _ rfl
    have yZ_1 := yZ.c 1 _ rfl
    have yZ_2 := yZ.c 2 _ rfl
    have yZ_3 := yZ.c 3 _ rfl
    have yZ_4 := yZ.c 4 _ rfl
    have yZ_5 := yZ.c 5 _ rfl
    have yZ_6 := yZ.c 6 _ rfl
    have yZ_z := yZ.lt
    clear yZ
    refine bodyPost_ret (v := .tuple #[.agg #[.int .i64 0, .int .u64 0, .int .i64 0, .int .u64 0, .int .i64 0, .int .i64 0, .int .i64 0], .int .i64 c]) (by simp [results, Tryz.results28, go_sem, yZ_0, yZ_1, yZ_2, yZ_3, yZ_4, yZ_5, yZ_6]) rfl ⟨rfl, HB.out⟩
end Go.Proofs.YtidelghgjibndaaGreat
namespace Go.Proofs.YtidelghgjibndaaGreat
set_option linter.unusedVariables false
open Go.RowKit
theorem pOk_iff {v : Int} : pOk v = true ↔ -2000000 ≤ v ∧ v ≤ 2000000 := by unfold pOk; rw [decide_eq_true_iff]
theorem det_pos {l : List Ms} (h : chkL l = 0) (hd : detN l ≠ 0) : 0 < detN l := by have := det_nonneg l (chk_w h); omega
theorem reachB_of {l : List Ms} (h : OkL l) (hd : 0 < detN l) {cx cy : Int} (h0 : pOk cx = true) (h1 : pOk cy = true) : ReachB cx cy (solX l) (solY l) (noiX l) (noiY l) (detN l) := by
  have a := pOk_iff.1 h0
  have b := pOk_iff.1 h1
  have s := sol_bd (nrm_bd h)
  have n := noi_bd h
  exact ⟨⟨a.1, a.2, b.1, b.2⟩, s.x, s.y, n.1, n.2, hd, s.det.2⟩
/-- reach of a list -/
theorem reachL_any {l : List Ms} (h : OkL l) (hd : 0 < detN l) {cx cy : Int} (h0 : pOk cx = true) (h1 : pOk cy = true) (w : World) :
    Calls Tryz.prog 31 #[.agg #[.int .i64 cx, .int .i64 cy], .agg #[.int .i64 (hiW (solX l)), .int .u64 (loW (solX l)), .int .i64 (hiW (solY l)), .int .u64 (loW (solY l)), .int .i64 (hiW (noiX l)), .int .u64 (loW (noiX l)), .int .i64 (hiW (noiY l)), .int .u64 (loW (noiY l)), .int .i64 ((detN l))]] w fun e w' => e = .returned (.tuple #[.int .i64 (reachF cx cy l).1.1, .int .i64 (reachF cx cy l).1.2, .int .i64 (reachF cx cy l).2]) ∧ Below w.heap.size w w' :=
  reach_any cx cy (solX l) (solY l) (noiX l) (noiY l) (detN l) w (reachB_of h hd h0 h1)
theorem pair_bad (x y d : Int) : (pairF x y d).2 = 0 ∨ pairF x y d = ((0, 0), 2) := by unfold pairF; split; exact .inl rfl; exact .inr rfl
theorem reach_bad (cx cy : Int) (l : List Ms) : (reachF cx cy l).2 = 0 ∨ reachF cx cy l = ((0, 0), 2) := pair_bad _ _ _
def boxV (b : BoxI) : Value := .agg #[.int .i64 b.cx, .int .i64 b.cy, .int .i64 b.x, .int .i64 b.y]
set_option maxHeartbeats 40000000 in
set_option maxRecDepth 100000 in
theorem acc_any (l : List Ms) (v : Value) (w : World) (h : LstAt l v w) :
    Calls Tryz.prog 18 #[v] w fun e w' => e = .returned (.tuple #[boxV (accF l).1, .int .i64 (accF l).2]) ∧ Below w.heap.size w w' := by
  obtain ⟨p, cap, rfl⟩ := lst_form h
  by_cases hs : solE l = 0
  · obtain ⟨hc, hd, hx, hy⟩ := sol_chk hs
    have SO := Lib.hid fun w h => sol_ok l (.slice p l.length cap) w h hs
    have SV := Lib.hid fun w h => solve_any l (.slice p l.length cap) w h hc
    have RE := Lib.hid fun w => reachL_any (okL_of hc) (det_pos hc hd) hx hy w
    have EV : accF l = if (reachF (cenX l) (cenY l) l).2 = 0 then (⟨cenX l, cenY l, (reachF (cenX l) (cenY l) l).1.1, (reachF (cenX l) (cenY l) l).1.2⟩, 0) else (box0, 2) := by unfold accF; rw [if_pos hs]
    have RB := reach_bad (cenX l) (cenY l) l
    obtain ⟨R, hR⟩ : ∃ x, reachF (cenX l) (cenY l) l = x := ⟨_, rfl⟩
    rw [hR] at EV RE RB
    clear hR hs hc hd hx hy
    generalize solX l = X at *
    generalize solY l = Y at *
    generalize noiX l = U at *
    generalize noiY l = V at *
    generalize detN l = T at *
    generalize cenX l = cx at *
    generalize cenY l = cy at *
    rcases RB with RB | rfl
    · obtain ⟨⟨rx, ry⟩, re⟩ := R
      simp only at RB
      subst RB
      have HV := Lib.hid (EV.trans (if_pos rfl))
      clear EV
      have H0 := Lib.hid h
      have KZ := Lib.hid (Blk.of (vs := #[.int .i64 0, .int .i64 0, .int .i64 0, .int .i64 0]) (t := 26) (w := w) (b := w.heap.size) (by simp))
      have HB := Lib.hid ((Below.refl w.heap.size w).alloc (by simp; try omega) (.cells #[.int .i64 0, .int .i64 0, .int .i64 0, .int .i64 0] 26))
      go_enter Tryz.func18, Tryz.ntmps18
      clear h
      go_wp2_with fail
      generalize w.alloc (.cells #[.int .i64 0, .int .i64 0, .int .i64 0, .int .i64 0] 26) = w0 at *
      refine (SO.out _ (H0.out.below HB.out)).mono ?_
      rintro e1 w1 ⟨rfl, hb1⟩
      replace HB := Lib.hid (HB.out.trans (hb1.mono HB.out.size))
      replace KZ := Lib.hid (KZ.out.below hb1)
      clear hb1
      go_wp2_with fail
      have KS := Lib.hid (Blk.of (vs := #[.int .i64 (hiW X), .int .u64 (loW X), .int .i64 (hiW Y), .int .u64 (loW Y), .int .i64 T, .int .i64 cx, .int .i64 cy]) (t := 81) (w := w1) (b := w1.heap.size) rfl)
      have hb2 : Below w1.heap.size w1 (w1.alloc (.cells #[.int .i64 (hiW X), .int .u64 (loW X), .int .i64 (hiW Y), .int .u64 (loW Y), .int .i64 T, .int .i64 cx, .int .i64 cy] 81)) := (Below.refl _ _).alloc (Nat.le_refl _) _
      have hnS := HB.out.size
      have nzS_Z := KZ.out.lt
      replace HB := Lib.hid (HB.out.trans (hb2.mono HB.out.size))
      replace KZ := Lib.hid (KZ.out.below hb2)
      clear hb2
      generalize w1.alloc (.cells #[.int .i64 (hiW X), .int .u64 (loW X), .int .i64 (hiW Y), .int .u64 (loW Y), .int .i64 T, .int .i64 cx, .int .i64 cy] 81) = w2 at *
      generalize w1.heap.size = bS at *
      have neS_Z : bS ≠ w.heap.size := by omega
      clear nzS_Z
      have SVW := Lib.hid fun w1 (h : Below w2.heap.size w2 w1) => SV.out w1 (H0.out.below (HB.out.trans (h.mono HB.out.size)))
      have gS_5 := fun d os => cell_regrown (KS.out.c 5 _ rfl) d os
      have gS_6 := fun d os => cell_regrown (KS.out.c 6 _ rfl) d os
      have rv0 := Lib.hid (fun d os => Calls.regrown_of (SVW.out (Go.Sort.grow (redrawn w2 d) os) (below_regrown w2 d os)))
      have rv1 := Lib.hid (fun d os => Calls.regrown_of (RE.out (Go.Sort.grow (redrawn w2 d) os)))
      refine wp_region_quiet_below (by kernel_rfl) (by kernel_rfl) ?_
      repeat (quiet_step (first | with_reducible exact rv0.out _ _ | with_reducible exact rv1.out _ _))
      refine wpQuiet_nil ?_
      intro w9 hw9
      have hb9 : Below w2.heap.size w2 w9 := by
        obtain ⟨⟨dq, osq⟩, hw2⟩ := hw9
        rw [hw2]; exact below_regrown _ dq osq
      clear gS_5 gS_6 rv0 rv1 hw9 SVW
      replace HB := Lib.hid (HB.out.trans (hb9.mono HB.out.size))
      replace KZ := Lib.hid (KZ.out.below hb9)
      replace KS := Lib.hid (KS.out.below hb9)
      clear hb9
      have yZ := KZ.out
      have yZ_0 := yZ.c 0 _ rfl
      have yZ_1 := yZ.c 1 _ rfl
      have yZ_2 := yZ.c 2 _ rfl
      have yZ_3 := yZ.c 3 _ rfl
      have yZ_z := yZ.lt
      have yZ_f0 := yZ.f 0 _ rfl
      have yZ_f1 := yZ.f 1 _ rfl
      have yZ_f2 := yZ.f 2 _ rfl
      have yZ_f3 := yZ.f 3 _ rfl
      clear yZ
      have yS := KS.out
      have yS_0 := yS.c 0 _ rfl
      have yS_1 := yS.c 1 _ rfl
      have yS_2 := yS.c 2 _ rfl
      have yS_3 := yS.c 3 _ rfl
      have yS_4 := yS.c 4 _ rfl
      have yS_5 := yS.c 5 _ rfl
      have yS_6 := yS.c 6 _ rfl
      have yS_z := yS.lt
      clear yS
      go_wp2
      replace KZ := Lib.hid (blk_set (blk_set (blk_set (blk_set KZ.out (j := 0) (by simp) (.int .i64 cx)) (j := 1) (by simp) (.int .i64 cy)) (j := 2) (by simp) (.int .i64 rx)) (j := 3) (by simp) (.int .i64 ry))
      replace KS := Lib.hid (blk_other (b := bS) (n := w.heap.size) (j := 3) (blk_other (b := bS) (n := w.heap.size) (j := 2) (blk_other (b := bS) (n := w.heap.size) (j := 1) (blk_other (b := bS) (n := w.heap.size) (j := 0) KS.out (by omega) (.int .i64 cx)) (by omega) (.int .i64 cy)) (by omega) (.int .i64 rx)) (by omega) (.int .i64 ry))
      replace HB := Lib.hid ((((HB.out.setCell (p := ⟨w.heap.size, 0, none⟩) (show w.heap.size ≤ w.heap.size by omega) (.int .i64 cx)).setCell (p := ⟨w.heap.size, 1, none⟩) (show w.heap.size ≤ w.heap.size by omega) (.int .i64 cy)).setCell (p := ⟨w.heap.size, 2, none⟩) (show w.heap.size ≤ w.heap.size by omega) (.int .i64 rx)).setCell (p := ⟨w.heap.size, 3, none⟩) (show w.heap.size ≤ w.heap.size by omega) (.int .i64 ry))
      clear yZ_0 yZ_1 yZ_2 yZ_3 yZ_z yZ_f0 yZ_f1 yZ_f2 yZ_f3 yS_0 yS_1 yS_2 yS_3 yS_4 yS_5 yS_6 yS_z
      generalize (((w9.setCell ⟨w.heap.size, 0, none⟩ (.int .i64 cx)).setCell ⟨w.heap.size, 1, none⟩ (.int .i64 cy)).setCell ⟨w.heap.size, 2, none⟩ (.int .i64 rx)).setCell ⟨w.heap.size, 3, none⟩ (.int .i64 ry) = w10 at *
      simp only [List.set] at KZ
      have yZ := KZ.out
      have yZ_0 := yZ.c 0 _ rfl
      have yZ_1 := yZ.c 1 _ rfl
      have yZ_2 := yZ.c 2 _ rfl
      have yZ_3 := yZ.c 3 _ rfl
      have yZ_z := yZ.lt
      clear yZ
      refine bodyPost_ret (v := .tuple #[.agg #[.int .i64 cx, .int .i64 cy, .int .i64 rx, .int .i64 ry], .int .i64 0]) (by simp [results, Tryz.results18, go_sem, yZ_0, yZ_1, yZ_2, yZ_3]) rfl ⟨by rw [HV.out]; rfl, HB.out⟩
    · have HV := Lib.hid (EV.trans (if_neg (by simp)))
      clear EV
      have H0 := Lib.hid h
      have KZ := Lib.hid (Blk.of (vs := #[.int .i64 0, .int .i64 0, .int .i64 0, .int .i64 0]) (t := 26) (w := w) (b := w.heap.size) (by simp))
      have HB := Lib.hid ((Below.refl w.heap.size w).alloc (by simp; try omega) (.cells #[.int .i64 0, .int .i64 0, .int .i64 0, .int .i64 0] 26))
      go_enter Tryz.func18, Tryz.ntmps18
      clear h
      go_wp2_with fail
      generalize w.alloc (.cells #[.int .i64 0, .int .i64 0, .int .i64 0, .int .i64 0] 26) = w0 at *
      refine (SO.out _ (H0.out.below HB.out)).mono ?_
      rintro e1 w1 ⟨rfl, hb1⟩
      replace HB := Lib.hid (HB.out.trans (hb1.mono HB.out.size))
      replace KZ := Lib.hid (KZ.out.below hb1)
      clear hb1
      go_wp2_with fail
      have KS := Lib.hid (Blk.of (vs := #[.int .i64 (hiW X), .int .u64 (loW X), .int .i64 (hiW Y), .int .u64 (loW Y), .int .i64 T, .int .i64 cx, .int .i64 cy]) (t := 81) (w := w1) (b := w1.heap.size) rfl)
      have hb2 : Below w1.heap.size w1 (w1.alloc (.cells #[.int .i64 (hiW X), .int .u64 (loW X), .int .i64 (hiW Y), .int .u64 (loW Y), .int .i64 T, .int .i64 cx, .int .i64 cy] 81)) := (Below.refl _ _).alloc (Nat.le_refl _) _
      have hnS := HB.out.size
      have nzS_Z := KZ.out.lt
      replace HB := Lib.hid (HB.out.trans (hb2.mono HB.out.size))
      replace KZ := Lib.hid (KZ.out.below hb2)
      clear hb2
      generalize w1.alloc (.cells #[.int .i64 (hiW X), .int .u64 (loW X), .int .i64 (hiW Y), .int .u64 (loW Y), .int .i64 T, .int .i64 cx, .int .i64 cy] 81) = w2 at *
      generalize w1.heap.size = bS at *
      have neS_Z : bS ≠ w.heap.size := by omega
      clear nzS_Z
      have SVW := Lib.hid fun w1 (h : Below w2.heap.size w2 w1) => SV.out w1 (H0.out.below (HB.out.trans (h.mono HB.out.size)))
      have gS_5 := fun d os => cell_regrown (KS.out.c 5 _ rfl) d os
      have gS_6 := fun d os => cell_regrown (KS.out.c 6 _ rfl) d os
      have rv0 := Lib.hid (fun d os => Calls.regrown_of (SVW.out (Go.Sort.grow (redrawn w2 d) os) (below_regrown w2 d os)))
      have rv1 := Lib.hid (fun d os => Calls.regrown_of (RE.out (Go.Sort.grow (redrawn w2 d) os)))
      refine wp_region_quiet_below (by kernel_rfl) (by kernel_rfl) ?_
      repeat (quiet_step (first | with_reducible exact rv0.out _ _ | with_reducible exact rv1.out _ _))
      refine wpQuiet_nil ?_
      intro w9 hw9
      have hb9 : Below w2.heap.size w2 w9 := by
        obtain ⟨⟨dq, osq⟩, hw2⟩ := hw9
        rw [hw2]; exact below_regrown _ dq osq
      clear gS_5 gS_6 rv0 rv1 hw9 SVW
      replace HB := Lib.hid (HB.out.trans (hb9.mono HB.out.size))
      replace KZ := Lib.hid (KZ.out.below hb9)
      replace KS := Lib.hid (KS.out.below hb9)
      clear hb9
      have yZ := KZ.out
      have yZ_0 := yZ.c 0 _ rfl
      have yZ_1 := yZ.c 1 _ rfl
      have yZ_2 := yZ.c 2 _ rfl
      have yZ_3 := yZ.c 3 _ rfl
      have yZ_z := yZ.lt
      have yZ_f0 := yZ.f 0 _ rfl
      have yZ_f1 := yZ.f 1 _ rfl
      have yZ_f2 := yZ.f 2 _ rfl
      have yZ_f3 := yZ.f 3 _ rfl
      clear yZ
      have yS := KS.out
      have yS_0 := yS.c 0 _ rfl
      have yS_1 := yS.c 1 _ rfl
      have yS_2 := yS.c 2 _ rfl
      have yS_3 := yS.c 3 _ rfl
      have yS_4 := yS.c 4 _ rfl
      have yS_5 := yS.c 5 _ rfl
      have yS_6 := yS.c 6 _ rfl
      have yS_z := yS.lt
      clear yS
      go_wp2
      replace KZ := Lib.hid (blk_set (blk_set (blk_set (blk_set KZ.out (j := 0) (by simp) (.int .i64 0)) (j := 1) (by simp) (.int .i64 0)) (j := 2) (by simp) (.int .i64 0)) (j := 3) (by simp) (.int .i64 0))
      replace KS := Lib.hid (blk_other (b := bS) (n := w.heap.size) (j := 3) (blk_other (b := bS) (n := w.heap.size) (j := 2) (blk_other (b := bS) (n := w.heap.size) (j := 1) (blk_other (b := bS) (n := w.heap.size) (j := 0) KS.out (by omega) (.int .i64 0)) (by omega) (.int .i64 0)) (by omega) (.int .i64 0)) (by omega) (.int .i64 0))
      replace HB := Lib.hid ((((HB.out.setCell (p := ⟨w.heap.size, 0, none⟩) (show w.heap.size ≤ w.heap.size by omega) (.int .i64 0)).setCell (p := ⟨w.heap.size, 1, none⟩) (show w.heap.size ≤ w.heap.size by omega) (.int .i64 0)).setCell (p := ⟨w.heap.size, 2, none⟩) (show w.heap.size ≤ w.heap.size by omega) (.int .i64 0)).setCell (p := ⟨w.heap.size, 3, none⟩) (show w.heap.size ≤ w.heap.size by omega) (.int .i64 0))
      clear yZ_0 yZ_1 yZ_2 yZ_3 yZ_z yZ_f0 yZ_f1 yZ_f2 yZ_f3 yS_0 yS_1 yS_2 yS_3 yS_4 yS_5 yS_6 yS_z
      generalize (((w9.setCell ⟨w.heap.size, 0, none⟩ (.int .i64 0)).setCell ⟨w.heap.size, 1, none⟩ (.int .i64 0)).setCell ⟨w.heap.size, 2, none⟩ (.int .i64 0)).setCell ⟨w.heap.size, 3, none⟩ (.int .i64 0) = w10 at *
      simp only [List.set] at KZ
      have yZ := KZ.out
      have yZ_0 := yZ.c 0 _ rfl
      have yZ_1 := yZ.c 1 _ rfl
      have yZ_2 := yZ.c 2 _ rfl
      have yZ_3 := yZ.c 3 _ rfl
      have yZ_z := yZ.lt
      clear yZ
      refine bodyPost_ret (v := .tuple #[.agg #[.int .i64 0, .int .i64 0, .int .i64 0, .int .i64 0], .int .i64 2]) (by simp [results, Tryz.results18, go_sem, yZ_0, yZ_1, yZ_2, yZ_3]) rfl ⟨by rw [HV.out]; rfl, HB.out⟩
  · have SO := Lib.hid fun w h => sol_bad l (.slice p l.length cap) w h hs
    have HV : Hid (accF l = (box0, solE l)) := Lib.hid (by unfold accF; rw [if_neg hs])
    have g : (solE l != 0) = true := by simpa using hs
    have g' : (solE l == 0) = false := by simpa using hs
    clear hs
    generalize solE l = c at *
    have H0 := Lib.hid h
    have KZ := Lib.hid (Blk.of (vs := #[.int .i64 0, .int .i64 0, .int .i64 0, .int .i64 0]) (t := 26) (w := w) (b := w.heap.size) (by simp))
    have HB := Lib.hid ((Below.refl w.heap.size w).alloc (by simp; try omega) (.cells #[.int .i64 0, .int .i64 0, .int .i64 0, .int .i64 0] 26))
    go_enter Tryz.func18, Tryz.ntmps18
    clear h
    go_wp2_with fail
    generalize w.alloc (.cells #[.int .i64 0, .int .i64 0, .int .i64 0, .int .i64 0] 26) = w0 at *
    refine (SO.out _ (H0.out.below HB.out)).mono ?_
    rintro e1 w1 ⟨rfl, hb1⟩
    replace HB := Lib.hid (HB.out.trans (hb1.mono HB.out.size))
    replace KZ := Lib.hid (KZ.out.below hb1)
    clear hb1
    have yZ := KZ.out
    have yZ_0 := yZ.c 0 _ rfl
    have yZ_1 := yZ.c 1 _ rfl
    have yZ_2 := yZ.c 2 _ rfl
    have yZ_3 := yZ.c 3 _ rfl
    have yZ_z := yZ.lt
    have yZ_f0 := yZ.f 0 _ rfl
    have yZ_f1 := yZ.f 1 _ rfl
    have yZ_f2 := yZ.f 2 _ rfl
    have yZ_f3 := yZ.f 3 _ rfl
    clear yZ
    go_wp2
    replace KZ := Lib.hid (blk_set (blk_set (blk_set (blk_set KZ.out (j := 0) (by simp) (.int .i64 0)) (j := 1) (by simp) (.int .i64 0)) (j := 2) (by simp) (.int .i64 0)) (j := 3) (by simp) (.int .i64 0))
    replace HB := Lib.hid ((((HB.out.setCell (p := ⟨w.heap.size, 0, none⟩) (show w.heap.size ≤ w.heap.size by omega) (.int .i64 0)).setCell (p := ⟨w.heap.size, 1, none⟩) (show w.heap.size ≤ w.heap.size by omega) (.int .i64 0)).setCell (p := ⟨w.heap.size, 2, none⟩) (show w.heap.size ≤ w.heap.size by omega) (.int .i64 0)).setCell (p := ⟨w.heap.size, 3, none⟩) (show w.heap.size ≤ w.heap.size by omega) (.int .i64 0))
    clear yZ_0 yZ_1 yZ_2 yZ_3 yZ_z yZ_f0 yZ_f1 yZ_f2 yZ_f3
    generalize (((w1.setCell ⟨w.heap.size, 0, none⟩ (.int .i64 0)).setCell ⟨w.heap.size, 1, none⟩ (.int .i64 0)).setCell ⟨w.heap.size, 2, none⟩ (.int .i64 0)).setCell ⟨w.heap.size, 3, none⟩ (.int .i64 0) = w2 at *
    simp only [List.set] at KZ
    have KS := Lib.hid (Blk.of (vs := #[.int .i64 0, .int .u64 0, .int .i64 0, .int .u64 0, .int .i64 0, .int .i64 0, .int .i64 0]) (t := 81) (w := w2) (b := w2.heap.size) rfl)
    have hb3 : Below w2.heap.size w2 (w2.alloc (.cells #[.int .i64 0, .int .u64 0, .int .i64 0, .int .u64 0, .int .i64 0, .int .i64 0, .int .i64 0] 81)) := (Below.refl _ _).alloc (Nat.le_refl _) _
    have hnS := HB.out.size
    have nzS_Z := KZ.out.lt
    replace HB := Lib.hid (HB.out.trans (hb3.mono HB.out.size))
    replace KZ := Lib.hid (KZ.out.below hb3)
    clear hb3
    generalize w2.alloc (.cells #[.int .i64 0, .int .u64 0, .int .i64 0, .int .u64 0, .int .i64 0, .int .i64 0, .int .i64 0] 81) = w3 at *
    generalize w2.heap.size = bS at *
    have neS_Z : bS ≠ w.heap.size := by omega
    clear nzS_Z
    have yZ := KZ.out
    have yZ_0 := yZ.c 0 _ rfl
    have yZ_1 := yZ.c 1 _ rfl
    have yZ_2 := yZ.c 2 _ rfl
    have yZ_3 := yZ.c 3 _ rfl
    have yZ_z := yZ.lt
    clear yZ
    refine bodyPost_ret (v := .tuple #[.agg #[.int .i64 0, .int .i64 0, .int .i64 0, .int .i64 0], .int .i64 c]) (by simp [results, Tryz.results18, go_sem, yZ_0, yZ_1, yZ_2, yZ_3]) rfl ⟨by rw [HV.out]; rfl, HB.out⟩
end Go.Proofs.YtidelghgjibndaaGreat
