/-
  The walks of the reference's Mul and Sub of layer 2.
-/
import Derived.Test.YtplgdlooglnpmaaProd43
namespace Go.Proofs.Ytplgdlooglnpmaa
set_option linter.unusedVariables false
open Go.RowKit

set_option maxHeartbeats 4000000 in
theorem rsz_any (a : Int) (w : World) (h0 : -9223372036854775808 ≤ a) (h1 : a ≤ 9223372036854775807) :
    Calls Try.prog 75 #[.int .i64 a] w fun e w' => e = .returned (.int .u64 (absW a)) ∧ Below w.heap.size w w' := by
  by_cases q : a < 0
  · have g : decide (a < 0) = true := by simpa using q
    have E1 : IntKind.i64.wrap (a + 1) = a + 1 := IntWalk.i64_in _ (by omega)
    have E2 : IntKind.i64.wrap (-(a + 1)) = -(a + 1) := IntWalk.i64_in _ (by omega)
    have E3 : IntKind.u64.wrap (-(a + 1)) = -(a + 1) := by rw [IntKind.wrap_u64]; omega
    have E4 : IntKind.u64.wrap (-(a + 1) + 1) = absW a := by rw [IntKind.wrap_u64]; unfold absW; rw [if_pos q]; omega
    have E5 : absW a = -a := by unfold absW; rw [if_pos q]
    go_enter Try.func75, Try.ntmps75
    go_wp2
    go_ret
    exact ⟨by first | rfl | exact ret_iw E4 | exact ret_iw E5.symm | (rw [E5]), Below.refl _ _⟩
  · have g : decide (a < 0) = false := by simpa using q
    have E : IntKind.u64.wrap a = a := by rw [IntKind.wrap_u64]; omega
    have E5 : absW a = a := by unfold absW; rw [if_neg q]
    go_enter Try.func75, Try.ntmps75
    go_wp2
    go_ret
    exact ⟨by first | rfl | exact ret_iw E5.symm | (rw [E5]), Below.refl _ _⟩
theorem prod_int (x y : Int) (hx0 : 0 ≤ x) (hx : x < 18446744073709551616) (hy0 : 0 ≤ y) (hy : y < 18446744073709551616) (w : World) :
    Calls Try.prog 74 #[.int .u64 x, .int .u64 y] w fun e w' => e = .returned (.tuple #[.int .u64 (hiW (x * y)), .int .u64 (loW (x * y))]) ∧ Below w.heap.size w w' := by
  obtain ⟨x, rfl⟩ := Int.eq_ofNat_of_zero_le hx0
  obtain ⟨y, rfl⟩ := Int.eq_ofNat_of_zero_le hy0
  refine (product_full x y w (by omega) (by omega)).mono fun e w' ⟨he, hw⟩ => ⟨?_, by rw [← hw]; exact Below.refl _ _⟩
  rw [he]
  unfold hiW loW
  rw [← Int.natCast_mul]
  rfl
set_option maxHeartbeats 4000000 in
set_option maxRecDepth 100000 in
theorem rmul_any (a b : Int) (w : World) (ha0 : -9223372036854775808 ≤ a) (ha1 : a ≤ 9223372036854775807) (hb0 : -9223372036854775808 ≤ b) (hb1 : b ≤ 9223372036854775807) :
    Calls Try.prog 54 #[.int .i64 a, .int .i64 b] w fun e w' => e = .returned (wv (a * b)) ∧ Below w.heap.size w w' := by
  have A1 : absW a ≤ 9223372036854775808 := by unfold absW; split <;> omega
  have B1 : absW b ≤ 9223372036854775808 := by unfold absW; split <;> omega
  obtain ⟨m0, m1⟩ := mul_u (absW_nonneg a) A1 (absW_nonneg b) B1
  have SA := Lib.hid fun w => rsz_any a w ha0 ha1
  have SB := Lib.hid fun w => rsz_any b w hb0 hb1
  have PR := Lib.hid fun w => prod_int (absW a) (absW b) (absW_nonneg a) (by omega) (absW_nonneg b) (by omega) w
  obtain ⟨sg, gs⟩ : ∃ sg, (decide (a < 0) == decide (b < 0)) = sg := ⟨_, rfl⟩
  have SG := Lib.hid fun w => rsigned_any (absW a * absW b) (!sg) w m0 (by omega)
  have E : a * b = sgn (!sg) (absW a * absW b) := by rw [absW_mul, ← gs]; rfl
  rw [E]
  clear E ha0 ha1 hb0 hb1 m0 m1 A1 B1
  unfold wv at SG ⊢
  generalize sgn (!sg) (absW a * absW b) = r at *
  generalize absW a * absW b = p at *
  generalize absW a = a' at *
  generalize absW b = b' at *
  have KZ := Lib.hid (Blk.of (vs := #[.int .i64 0, .int .u64 0]) (t := 51) (w := w) (b := w.heap.size) (by simp))
  have HB := Lib.hid ((Below.refl w.heap.size w).alloc (by simp; try omega) (.cells #[.int .i64 0, .int .u64 0] 51))
  go_enter Try.func54, Try.ntmps54
  go_wp2_with fail
  generalize w.alloc (.cells #[.int .i64 0, .int .u64 0] 51) = w0 at *
  refine (SA.out _).mono ?_
  rintro e1 w1 ⟨rfl, hb1⟩
  replace HB := Lib.hid (HB.out.trans (hb1.mono HB.out.size))
  replace KZ := Lib.hid (KZ.out.below hb1)
  clear hb1
  go_wp2_with fail
  refine (SB.out _).mono ?_
  rintro e2 w2 ⟨rfl, hb2⟩
  replace HB := Lib.hid (HB.out.trans (hb2.mono HB.out.size))
  replace KZ := Lib.hid (KZ.out.below hb2)
  clear hb2
  go_wp2_with fail
  refine (PR.out _).mono ?_
  rintro e3 w3 ⟨rfl, hb3⟩
  replace HB := Lib.hid (HB.out.trans (hb3.mono HB.out.size))
  replace KZ := Lib.hid (KZ.out.below hb3)
  clear hb3
  go_wp2_with fail
  refine (SG.out _).mono ?_
  rintro e4 w4 ⟨rfl, hb4⟩
  replace HB := Lib.hid (HB.out.trans (hb4.mono HB.out.size))
  replace KZ := Lib.hid (KZ.out.below hb4)
  clear hb4
  have yZ := KZ.out
  have yZ_0 := yZ.c 0 _ rfl
  have yZ_1 := yZ.c 1 _ rfl
  have yZ_z := yZ.lt
  have yZ_f0 := yZ.f 0 _ rfl
  have yZ_f1 := yZ.f 1 _ rfl
  clear yZ
  go_wp2
  replace KZ := Lib.hid (blk_set (blk_set KZ.out (j := 0) (by simp) (.int .i64 (hiW r))) (j := 1) (by simp) (.int .u64 (loW r)))
  replace HB := Lib.hid ((HB.out.setCell (p := ⟨w.heap.size, 0, none⟩) (show w.heap.size ≤ w.heap.size by omega) (.int .i64 (hiW r))).setCell (p := ⟨w.heap.size, 1, none⟩) (show w.heap.size ≤ w.heap.size by omega) (.int .u64 (loW r)))
  clear yZ_0 yZ_1 yZ_z yZ_f0 yZ_f1
  generalize (w4.setCell ⟨w.heap.size, 0, none⟩ (.int .i64 (hiW r))).setCell ⟨w.heap.size, 1, none⟩ (.int .u64 (loW r)) = w5 at *
  simp only [List.set] at KZ
  have KV := Lib.hid (Blk.of (vs := #[.int .i64 (hiW r), .int .u64 (loW r)]) (t := 51) (w := w5) (b := w5.heap.size) rfl)
  have hb6 : Below w5.heap.size w5 (w5.alloc (.cells #[.int .i64 (hiW r), .int .u64 (loW r)] 51)) := (Below.refl _ _).alloc (Nat.le_refl _) _
  have hnV := HB.out.size
  have nzV_Z := KZ.out.lt
  replace HB := Lib.hid (HB.out.trans (hb6.mono HB.out.size))
  replace KZ := Lib.hid (KZ.out.below hb6)
  clear hb6
  generalize w5.alloc (.cells #[.int .i64 (hiW r), .int .u64 (loW r)] 51) = w6 at *
  generalize w5.heap.size = bV at *
  have neV_Z : bV ≠ w.heap.size := by omega
  clear nzV_Z
  have yZ := KZ.out
  have yZ_0 := yZ.c 0 _ rfl
  have yZ_1 := yZ.c 1 _ rfl
  have yZ_z := yZ.lt
  clear yZ
  refine bodyPost_ret (v := .agg #[.int .i64 (hiW r), .int .u64 (loW r)]) (by simp [results, Try.results54, go_sem, yZ_0, yZ_1]) rfl ⟨rfl, HB.out⟩
set_option maxHeartbeats 4000000 in
set_option maxRecDepth 100000 in
theorem rsub_any (x y : Int) (w : World) (hx : FitW x) (hy : FitW y) (hs : FitW (x - y)) :
    Calls Try.prog 53 #[wv x, wv y] w fun e w' => e = .returned (.tuple #[wv (x - y), .bool true]) ∧ Below w.heap.size w w' := by
  obtain ⟨p0, p1⟩ := lo_rng x
  obtain ⟨q0, q1⟩ := lo_rng y
  have E1 : IntKind.u64.wrap (loW x - loW y) = loW (x - y) := by rw [IntKind.wrap_u64]; unfold loW; omega
  have C1 : (decide (hiW x < 0) == decide (hiW y < 0)) = true ∨ ((decide (hiW x < 0) == decide (hiW y < 0)) = false ∧ (decide (hiW (x - y) < 0) == decide (hiW x < 0)) = true) := by
    obtain ⟨a, b⟩ := hs
    by_cases h1 : x < 0 <;> by_cases h2 : y < 0 <;> simp [hi_neg, h1, h2] <;> omega
  by_cases lt : loW x < loW y
  · have g0 : decide (loW x < loW y) = true := by simpa using lt
    have E2 : IntKind.i64.wrap (IntKind.u64.wrap (IntKind.u64.wrap (IntKind.u64.wrap (hiW x) - IntKind.u64.wrap (hiW y)) - 1)) = hiW (x - y) := by
      have e := sub_hi hs
      have eb : bor (loW x) (loW y) 0 = 1 := by unfold bor; rw [if_pos (by omega)]
      rw [eb] at e
      rw [← e]
      congr 1
      rw [IntKind.wrap_u64, IntKind.wrap_u64]
      omega
    clear hx hy hs lt p0 p1 q0 q1
    obtain ⟨h1, k1⟩ : ∃ m, IntKind.u64.wrap (IntKind.u64.wrap (hiW x) - IntKind.u64.wrap (hiW y)) = m := ⟨_, rfl⟩
    rw [k1] at E2
    obtain ⟨h2, k2⟩ : ∃ m, IntKind.u64.wrap (h1 - 1) = m := ⟨_, rfl⟩
    rw [k2] at E2
    unfold wv
    generalize hiW (x - y) = r1 at *
    generalize loW (x - y) = r2 at *
    rcases C1 with g | ⟨g, g'⟩
    all_goals
      go_enter Try.func53, Try.ntmps53
      go_wp2
      refine bodyPost_ret (v := .tuple #[.agg #[.int .i64 r1, .int .u64 r2], .bool true]) (by simp [results, Try.results53, go_sem]) rfl ⟨rfl, ?_⟩
      exact ((((Below.refl _ _).alloc (Nat.le_refl _) _).alloc (by simp) _).alloc (by simp; try omega) _).alloc (by simp; try omega) _
  · have g0 : decide (loW x < loW y) = false := by simpa using lt
    have E2 : IntKind.i64.wrap (IntKind.u64.wrap (IntKind.u64.wrap (hiW x) - IntKind.u64.wrap (hiW y))) = hiW (x - y) := by
      have e := sub_hi hs
      have eb : bor (loW x) (loW y) 0 = 0 := by unfold bor; rw [if_neg (by omega)]
      rw [eb] at e
      rw [← e]
      congr 1
      rw [IntKind.wrap_u64]
      omega
    clear hx hy hs lt p0 p1 q0 q1
    obtain ⟨h1, k1⟩ : ∃ m, IntKind.u64.wrap (IntKind.u64.wrap (hiW x) - IntKind.u64.wrap (hiW y)) = m := ⟨_, rfl⟩
    rw [k1] at E2
    unfold wv
    generalize hiW (x - y) = r1 at *
    generalize loW (x - y) = r2 at *
    rcases C1 with g | ⟨g, g'⟩
    all_goals
      go_enter Try.func53, Try.ntmps53
      go_wp2
      refine bodyPost_ret (v := .tuple #[.agg #[.int .i64 r1, .int .u64 r2], .bool true]) (by simp [results, Try.results53, go_sem]) rfl ⟨rfl, ?_⟩
      exact ((((Below.refl _ _).alloc (Nat.le_refl _) _).alloc (by simp) _).alloc (by simp; try omega) _).alloc (by simp; try omega) _
end Go.Proofs.Ytplgdlooglnpmaa
