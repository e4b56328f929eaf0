/-
  Walks and laws of the layers below, gathered from several texts.
-/
import Derived.Lib.Mul64
import Derived.Laws.Bits64b
import Derived.StillTailTactics
import Derived.Test.YtplgdlooglnpmaaGreatLN43x6
namespace Go.Proofs.YtplgdlooglnpmaaGreat
set_option linter.unusedVariables false
open Go.RowKit
theorem not_u64 {n : Int} (h0 : 0 ≤ n) (h1 : n < 18446744073709551616) : bits .xor .u64 IntKind.u64.max n = 18446744073709551615 - n := by
  rw [show IntKind.u64.max = 18446744073709551615 by rfl]
  obtain ⟨n, rfl⟩ := Int.eq_ofNat_of_zero_le h0
  have h2 : (BitVec.ofInt 64 (n : Int)).toNat = n := by
    rw [BitVec.ofInt_natCast, BitVec.toNat_ofNat]; exact Nat.mod_eq_of_lt (by omega)
  have e : BitVec.ofInt 64 18446744073709551615 = BitVec.allOnes 64 := by decide
  show IntKind.u64.wrap ((BitVec.ofInt 64 18446744073709551615 ^^^ BitVec.ofInt 64 (n : Int)).toNat : Int) = _
  rw [e, BitVec.allOnes_xor, BitVec.toNat_not, h2, IntKind.wrap_u64]
  omega
set_option maxHeartbeats 4000000 in
set_option maxRecDepth 100000 in
theorem rsize_any (x : Int) (w : World) (h : FitW x) :
    Calls Tryz.prog 141 #[wv x] w fun e w' => e = .returned (.tuple #[.int .u64 (hiW (absW x)), .int .u64 (loW (absW x))]) ∧ Below w.heap.size w w' := by
  obtain ⟨b0, b1⟩ := lo_rng x
  obtain ⟨a0, a1⟩ := hi_rng h
  unfold wv
  by_cases q : x < 0
  · have g' : decide (hiW x < 0) = true := by have := (hi_neg x).2 q; simp; omega
    have C : IntKind.u64.wrap (hiW x) = hiW x + 18446744073709551616 := by have := (hi_neg x).2 q; rw [IntKind.wrap_u64]; omega
    have N1 : bits .xor .u64 IntKind.u64.max (hiW x + 18446744073709551616) = -1 - hiW x := by rw [not_u64 (by omega) (by have := (hi_neg x).2 q; omega)]; omega
    have N2 := not_u64 b0 b1
    have W2 : IntKind.u64.wrap (18446744073709551615 - loW x + 1) = loW (absW x) := by rw [IntKind.wrap_u64]; unfold absW loW; rw [if_pos q]; omega
    by_cases z : loW (absW x) = 0
    · have gz : (loW (absW x) == 0) = true := by simpa using z
      have G0 : (IntKind.u64.wrap (bits .xor .u64 (if IntKind.u64.signed = true then -1 else IntKind.u64.max) (loW x) + 1) == 0) = true := by rw [show (if IntKind.u64.signed = true then -1 else IntKind.u64.max) = IntKind.u64.max from rfl, N2, W2]; exact gz
      have W1 : IntKind.u64.wrap (-1 - hiW x + 1) = hiW (absW x) := by
        obtain ⟨f0, f1⟩ := h
        rw [IntKind.wrap_u64]; unfold absW hiW loW at *; rw [if_pos q] at *; omega
      clear h q z a0 a1 b0 b1
      generalize hiW (absW x) = r1 at *
      generalize loW (absW x) = r2 at *
      go_enter Tryz.func141, Tryz.ntmps141
      go_wp2
      go_quiet (fail)
      go_wp2
      go_ret2
      exact ⟨rfl, below_drewN ((Below.refl _ _).alloc (Nat.le_refl _) _) _⟩
    · have gz : (loW (absW x) == 0) = false := by simpa using z
      have G0 : (IntKind.u64.wrap (bits .xor .u64 (if IntKind.u64.signed = true then -1 else IntKind.u64.max) (loW x) + 1) == 0) = false := by rw [show (if IntKind.u64.signed = true then -1 else IntKind.u64.max) = IntKind.u64.max from rfl, N2, W2]; exact gz
      have W1 : -1 - hiW x = hiW (absW x) := by
        obtain ⟨f0, f1⟩ := h
        unfold absW hiW loW at *; rw [if_pos q] at *; omega
      rw [W1] at N1
      clear h q z a0 a1 b0 b1 W1
      generalize hiW (absW x) = r1 at *
      generalize loW (absW x) = r2 at *
      go_enter Tryz.func141, Tryz.ntmps141
      go_wp2
      go_quiet (fail)
      go_wp2
      go_ret2
      exact ⟨rfl, below_drewN ((Below.refl _ _).alloc (Nat.le_refl _) _) _⟩
  · have g' : decide (hiW x < 0) = false := by have := hi_neg x; simp; omega
    have EA : absW x = x := by unfold absW; rw [if_neg q]
    have E1 : IntKind.u64.wrap (hiW x) = hiW x := by have := hi_neg x; rw [IntKind.wrap_u64]; omega
    rw [EA]
    clear EA h q
    go_enter Tryz.func141, Tryz.ntmps141
    go_wp2
    go_quiet (fail)
    go_wp2
    go_ret2
    exact ⟨rfl, below_drewN ((Below.refl _ _).alloc (Nat.le_refl _) _) _⟩
set_option maxHeartbeats 4000000 in
set_option maxRecDepth 100000 in
theorem rsigned_any (n : Int) (neg : Bool) (w : World) (h0 : 0 ≤ n) (h1 : n < 170141183460469231731687303715884105728) :
    Calls Tryz.prog 95 #[.bool neg, .int .u64 (hiW n), .int .u64 (loW n)] w fun e w' => e = .returned (.tuple #[wv (sgn neg n), .bool true]) ∧ Below w.heap.size w w' := by
  have a0 : 0 ≤ hiW n := by unfold hiW; omega
  have a1 : hiW n < 9223372036854775808 := by unfold hiW; omega
  obtain ⟨b0, b1⟩ := lo_rng n
  have g1 : decide (9223372036854775808 < hiW n) = false := by simp; omega
  have g2 : (hiW n == 9223372036854775808) = false := by simp; omega
  cases neg
  · have e1 : IntKind.i64.wrap (hiW n) = hiW n := IntWalk.i64_in _ (by omega)
    have es : sgn false n = n := rfl
    rw [es]
    unfold wv
    go_enter Tryz.func95, Tryz.ntmps95
    go_wp2
    refine bodyPost_ret (v := .tuple #[.agg #[.int .i64 (hiW n), .int .u64 (loW n)], .bool true]) (by simp [results, Tryz.results95, go_sem]) rfl ⟨rfl, ?_⟩
    exact (Below.refl _ _).alloc (Nat.le_refl _) _
  · have es : sgn true n = -n := rfl
    rw [es]
    have N1 := not_u64 a0 (show hiW n < 18446744073709551616 by omega)
    have N2 := not_u64 b0 b1
    have W2 : IntKind.u64.wrap (18446744073709551615 - loW n + 1) = loW (-n) := by rw [IntKind.wrap_u64]; unfold loW; omega
    by_cases z : loW (-n) = 0
    · have gz : (loW (-n) == 0) = true := by simpa using z
      have G0 : (IntKind.u64.wrap (bits .xor .u64 (if IntKind.u64.signed = true then -1 else IntKind.u64.max) (loW n) + 1) == 0) = true := by rw [show (if IntKind.u64.signed = true then -1 else IntKind.u64.max) = IntKind.u64.max from rfl, N2, W2]; exact gz
      have W1 : IntKind.i64.wrap (IntKind.u64.wrap (18446744073709551615 - hiW n + 1)) = hiW (-n) := by
        rw [IntKind.wrap_u64]
        unfold hiW loW at *
        simp only [IntKind.wrap, IntKind.bits, IntKind.signed]
        simp
        omega
      have W3 : wrap64 (IntKind.u64.wrap (18446744073709551615 - hiW n + 1)) = hiW (-n) := by
        rw [IntKind.wrap_u64]
        unfold wrap64 hiW loW at *
        omega
      obtain ⟨m, hm⟩ : ∃ m, IntKind.u64.wrap (18446744073709551615 - hiW n + 1) = m := ⟨_, rfl⟩
      rw [hm] at W1 W3
      clear z
      unfold wv
      generalize hiW (-n) = r1 at *
      generalize loW (-n) = r2 at *
      go_enter Tryz.func95, Tryz.ntmps95
      go_wp2
      refine bodyPost_ret (v := .tuple #[.agg #[.int .i64 r1, .int .u64 r2], .bool true]) (by simp [results, Tryz.results95, go_sem]) rfl ⟨rfl, ?_⟩
      exact (Below.refl _ _).alloc (Nat.le_refl _) _
    · have gz : (loW (-n) == 0) = false := by simpa using z
      have G0 : (IntKind.u64.wrap (bits .xor .u64 (if IntKind.u64.signed = true then -1 else IntKind.u64.max) (loW n) + 1) == 0) = false := by rw [show (if IntKind.u64.signed = true then -1 else IntKind.u64.max) = IntKind.u64.max from rfl, N2, W2]; exact gz
      have W1 : IntKind.i64.wrap (18446744073709551615 - hiW n) = hiW (-n) := by
        unfold hiW loW at *
        simp only [IntKind.wrap, IntKind.bits, IntKind.signed]
        simp
        omega
      have W3 : wrap64 (18446744073709551615 - hiW n) = hiW (-n) := by
        unfold wrap64 hiW loW at *
        omega
      clear z
      unfold wv
      generalize hiW (-n) = r1 at *
      generalize loW (-n) = r2 at *
      go_enter Tryz.func95, Tryz.ntmps95
      go_wp2
      refine bodyPost_ret (v := .tuple #[.agg #[.int .i64 r1, .int .u64 r2], .bool true]) (by simp [results, Tryz.results95, go_sem]) rfl ⟨rfl, ?_⟩
      exact (Below.refl _ _).alloc (Nat.le_refl _) _
set_option maxHeartbeats 4000000 in
theorem rof_any (a : Int) (w : World) (h0 : -9223372036854775808 ≤ a) (h1 : a ≤ 9223372036854775807) :
    Calls Tryz.prog 89 #[.int .i64 a] w fun e w' => e = .returned (wv a) ∧ Below w.heap.size w w' := by
  have E2 : IntKind.u64.wrap a = loW a := by rw [IntKind.wrap_u64]; rfl
  by_cases q : a < 0
  · have g : decide (a < 0) = true := by simpa using q
    have E1 : hiW a = -1 := by unfold hiW; omega
    unfold wv
    rw [E1]
    clear q
    go_enter Tryz.func89, Tryz.ntmps89
    go_wp2
    refine bodyPost_ret (v := .agg #[.int .i64 (-1), .int .u64 (loW a)]) (by simp [results, Tryz.results89, go_sem]) rfl ⟨rfl, ?_⟩
    exact (Below.refl _ _).alloc (Nat.le_refl _) _
  · have g : decide (a < 0) = false := by simpa using q
    have E1 : hiW a = 0 := by unfold hiW; omega
    unfold wv
    rw [E1]
    clear q
    go_enter Tryz.func89, Tryz.ntmps89
    go_wp2
    refine bodyPost_ret (v := .agg #[.int .i64 0, .int .u64 (loW a)]) (by simp [results, Tryz.results89, go_sem]) rfl ⟨rfl, ?_⟩
    exact (Below.refl _ _).alloc (Nat.le_refl _) _
end Go.Proofs.YtplgdlooglnpmaaGreat
namespace Go.Proofs.YtplgdlooglnpmaaGreat
set_option linter.unusedVariables false
open Go.RowKit
theorem two_i {k : IntKind} {a b c d : Int} (h : a = b) (h' : c = d) : Ending.returned (.tuple #[.int k a, .int k c]) = .returned (.tuple #[.int k b, .int k d]) := by rw [h, h']
theorem maskN (a : Nat) (ha : a < 18446744073709551616) : bits .and .u64 (a : Int) 4294967295 = ((a % 4294967296 : Nat) : Int) := by
  have h := bits_and_u64_nat a 4294967295 ha (by omega)
  have e : a &&& 4294967295 = a % 4294967296 := Nat.and_two_pow_sub_one_eq_mod a 32
  rw [e] at h
  exact h
theorem divN (a : Nat) : (a : Int) / 4294967296 = ((a / 4294967296 : Nat) : Int) := by omega
theorem mulN (a b : Nat) : (a : Int) * (b : Int) = ((a * b : Nat) : Int) := (Int.natCast_mul a b).symm
theorem addN (a b : Nat) : (a : Int) + (b : Int) = ((a + b : Nat) : Int) := (Int.natCast_add a b).symm
theorem wrapN (a : Nat) (ha : a < 18446744073709551616) : IntKind.u64.wrap (a : Int) = (a : Int) := by rw [IntKind.wrap_u64]; omega
theorem orHalf (a b : Nat) (hb : b < 4294967296) : bits .or .u64 (IntKind.u64.wrap ((a : Int) * 4294967296)) (b : Int) = ((4294967296 * (a % 4294967296) + b : Nat) : Int) := by
  rw [show IntKind.u64.wrap ((a : Int) * 4294967296) = ((4294967296 * (a % 4294967296) : Nat) : Int) by rw [IntKind.wrap_u64]; omega, bits_or_u64_nat _ _ (by omega) (by omega), or_half _ _ hb]
theorem mul_parts (x y : Nat) : x * y = x / 4294967296 * (y / 4294967296) * 18446744073709551616 + (x / 4294967296 * (y % 4294967296) + x % 4294967296 * (y / 4294967296)) * 4294967296 + x % 4294967296 * (y % 4294967296) := by
  have hx : x = 4294967296 * (x / 4294967296) + x % 4294967296 := by omega
  have hy : y = 4294967296 * (y / 4294967296) + y % 4294967296 := by omega
  generalize x / 4294967296 = a at *
  generalize x % 4294967296 = b at *
  generalize y / 4294967296 = c at *
  generalize y % 4294967296 = d at *
  subst hx hy
  grind
set_option maxHeartbeats 1000000 in
set_option maxHeartbeats 1000000 in
theorem product_full (x y : Nat) (w : World) (hx : x < 18446744073709551616) (hy : y < 18446744073709551616) :
    Calls Tryz.prog 93 #[.int .u64 (x : Int), .int .u64 (y : Int)] w fun e w' => e = .returned (.tuple #[.int .u64 ((x * y / 18446744073709551616 : Nat) : Int), .int .u64 ((x * y % 18446744073709551616 : Nat) : Int)]) ∧ w = w' := by
  obtain ⟨bd, bt, bw, hhi⟩ := Lib.mul64_hi x y hx hy
  have hp := mul_parts x y
  have ba := Lib.half_mul_le (a := x / 4294967296) (b := y / 4294967296) (by omega) (by omega)
  have bb := Lib.half_mul_le (a := x / 4294967296) (b := y % 4294967296) (by omega) (by omega)
  have bc := Lib.half_mul_le (a := x % 4294967296) (b := y / 4294967296) (by omega) (by omega)
  have ba' : x / 4294967296 * (y / 4294967296) < 18446744073709551616 := by omega
  have bb' : x / 4294967296 * (y % 4294967296) < 18446744073709551616 := by omega
  have bc' : x % 4294967296 * (y / 4294967296) < 18446744073709551616 := by omega
  have bw' : x % 4294967296 * (y / 4294967296) + (x / 4294967296 * (y % 4294967296) + x % 4294967296 * (y % 4294967296) / 4294967296) % 4294967296 < 18446744073709551616 := by omega
  have bh1 : x / 4294967296 * (y / 4294967296) + (x / 4294967296 * (y % 4294967296) + x % 4294967296 * (y % 4294967296) / 4294967296) / 4294967296 < 18446744073709551616 := by omega
  have bh : x / 4294967296 * (y / 4294967296) + (x / 4294967296 * (y % 4294967296) + x % 4294967296 * (y % 4294967296) / 4294967296) / 4294967296 + (x % 4294967296 * (y / 4294967296) + (x / 4294967296 * (y % 4294967296) + x % 4294967296 * (y % 4294967296) / 4294967296) % 4294967296) / 4294967296 < 18446744073709551616 := by omega
  have HP := Lib.hid hp
  have HH := Lib.hid hhi
  clear hp hhi
  go_enter Tryz.func93, Tryz.ntmps93
  go_wp2
  simp only [maskN x hx, maskN y hy, divN, mulN, addN, wrapN _ bd, wrapN _ bb', wrapN _ bt, maskN _ bt, wrapN _ bc', wrapN _ bw', wrapN _ ba', wrapN _ bh1, wrapN _ bh, maskN _ bd, orHalf _ _ (Nat.mod_lt _ (by decide : 0 < 4294967296))]
  go_ret2
  refine ⟨two_i ?_ ?_, rfl⟩
  · have h1 := HH.out
    have h2 : x % 4294967296 * (y / 4294967296) + (x / 4294967296 * (y % 4294967296) + x % 4294967296 * (y % 4294967296) / 4294967296) % 4294967296 = (x / 4294967296 * (y % 4294967296) + x % 4294967296 * (y % 4294967296) / 4294967296) % 4294967296 + x % 4294967296 * (y / 4294967296) := Nat.add_comm _ _
    rw [← h1, h2]
  · have := HP.out
    omega
end Go.Proofs.YtplgdlooglnpmaaGreat
namespace Go.Proofs.YtplgdlooglnpmaaGreat
set_option linter.unusedVariables false
open Go.RowKit
set_option maxHeartbeats 4000000 in
theorem rsz_any (a : Int) (w : World) (h0 : -9223372036854775808 ≤ a) (h1 : a ≤ 9223372036854775807) :
    Calls Tryz.prog 94 #[.int .i64 a] w fun e w' => e = .returned (.int .u64 (absW a)) ∧ Below w.heap.size w w' := by
  by_cases q : a < 0
  · have g : decide (a < 0) = true := by simpa using q
    have E1 : IntKind.i64.wrap (a + 1) = a + 1 := IntWalk.i64_in _ (by omega)
    have E2 : IntKind.i64.wrap (-(a + 1)) = -(a + 1) := IntWalk.i64_in _ (by omega)
    have E3 : IntKind.u64.wrap (-(a + 1)) = -(a + 1) := by rw [IntKind.wrap_u64]; omega
    have E4 : IntKind.u64.wrap (-(a + 1) + 1) = absW a := by rw [IntKind.wrap_u64]; unfold absW; rw [if_pos q]; omega
    have E5 : absW a = -a := by unfold absW; rw [if_pos q]
    go_enter Tryz.func94, Tryz.ntmps94
    go_wp2
    go_ret
    exact ⟨by first | rfl | exact ret_iw E4 | exact ret_iw E5.symm | (rw [E5]), Below.refl _ _⟩
  · have g : decide (a < 0) = false := by simpa using q
    have E : IntKind.u64.wrap a = a := by rw [IntKind.wrap_u64]; omega
    have E5 : absW a = a := by unfold absW; rw [if_neg q]
    go_enter Tryz.func94, Tryz.ntmps94
    go_wp2
    go_ret
    exact ⟨by first | rfl | exact ret_iw E5.symm | (rw [E5]), Below.refl _ _⟩
theorem prod_int (x y : Int) (hx0 : 0 ≤ x) (hx : x < 18446744073709551616) (hy0 : 0 ≤ y) (hy : y < 18446744073709551616) (w : World) :
    Calls Tryz.prog 93 #[.int .u64 x, .int .u64 y] w fun e w' => e = .returned (.tuple #[.int .u64 (hiW (x * y)), .int .u64 (loW (x * y))]) ∧ Below w.heap.size w w' := by
  obtain ⟨x, rfl⟩ := Int.eq_ofNat_of_zero_le hx0
  obtain ⟨y, rfl⟩ := Int.eq_ofNat_of_zero_le hy0
  refine (product_full x y w (by omega) (by omega)).mono fun e w' ⟨he, hw⟩ => ⟨?_, by rw [← hw]; exact Below.refl _ _⟩
  rw [he]
  unfold hiW loW
  rw [← Int.natCast_mul]
  rfl
set_option maxHeartbeats 4000000 in
set_option maxRecDepth 100000 in
theorem rmul_any (a b : Int) (w : World) (ha0 : -9223372036854775808 ≤ a) (ha1 : a ≤ 9223372036854775807) (hb0 : -9223372036854775808 ≤ b) (hb1 : b ≤ 9223372036854775807) :
    Calls Tryz.prog 61 #[.int .i64 a, .int .i64 b] w fun e w' => e = .returned (wv (a * b)) ∧ Below w.heap.size w w' := by
  have A1 : absW a ≤ 9223372036854775808 := by unfold absW; split <;> omega
  have B1 : absW b ≤ 9223372036854775808 := by unfold absW; split <;> omega
  obtain ⟨m0, m1⟩ := mul_u (absW_nonneg a) A1 (absW_nonneg b) B1
  have SA := Lib.hid fun w => rsz_any a w ha0 ha1
  have SB := Lib.hid fun w => rsz_any b w hb0 hb1
  have PR := Lib.hid fun w => prod_int (absW a) (absW b) (absW_nonneg a) (by omega) (absW_nonneg b) (by omega) w
  obtain ⟨sg, gs⟩ : ∃ sg, (decide (a < 0) == decide (b < 0)) = sg := ⟨_, rfl⟩
  have SG := Lib.hid fun w => rsigned_any (absW a * absW b) (!sg) w m0 (by omega)
  have E : a * b = sgn (!sg) (absW a * absW b) := by rw [absW_mul, ← gs]; rfl
  rw [E]
  clear E ha0 ha1 hb0 hb1 m0 m1 A1 B1
  unfold wv at SG ⊢
  generalize sgn (!sg) (absW a * absW b) = r at *
  generalize absW a * absW b = p at *
  generalize absW a = a' at *
  generalize absW b = b' at *
  have KZ := Lib.hid (Blk.of (vs := #[.int .i64 0, .int .u64 0]) (t := 49) (w := w) (b := w.heap.size) (by simp))
  have HB := Lib.hid ((Below.refl w.heap.size w).alloc (by simp; try omega) (.cells #[.int .i64 0, .int .u64 0] 49))
  go_enter Tryz.func61, Tryz.ntmps61
  go_wp2_with fail
  generalize w.alloc (.cells #[.int .i64 0, .int .u64 0] 49) = w0 at *
  refine (SA.out _).mono ?_
  rintro e1 w1 ⟨rfl, hb1⟩
  replace HB := Lib.hid (HB.out.trans (hb1.mono HB.out.size))
  replace KZ := Lib.hid (KZ.out.below hb1)
  clear hb1
  go_wp2_with fail
  refine (SB.out _).mono ?_
  rintro e2 w2 ⟨rfl, hb2⟩
  replace HB := Lib.hid (HB.out.trans (hb2.mono HB.out.size))
  replace KZ := Lib.hid (KZ.out.below hb2)
  clear hb2
  go_wp2_with fail
  refine (PR.out _).mono ?_
  rintro e3 w3 ⟨rfl, hb3⟩
  replace HB := Lib.hid (HB.out.trans (hb3.mono HB.out.size))
  replace KZ := Lib.hid (KZ.out.below hb3)
  clear hb3
  go_wp2_with fail
  refine (SG.out _).mono ?_
  rintro e4 w4 ⟨rfl, hb4⟩
  replace HB := Lib.hid (HB.out.trans (hb4.mono HB.out.size))
  replace KZ := Lib.hid (KZ.out.below hb4)
  clear hb4
  have yZ := KZ.out
  have yZ_0 := yZ.c 0 _ rfl
  have yZ_1 := yZ.c 1 _ rfl
  have yZ_z := yZ.lt
  have yZ_f0 := yZ.f 0 _ rfl
  have yZ_f1 := yZ.f 1 _ rfl
  clear yZ
  go_wp2
  replace KZ := Lib.hid (blk_set (blk_set KZ.out (j := 0) (by simp) (.int .i64 (hiW r))) (j := 1) (by simp) (.int .u64 (loW r)))
  replace HB := Lib.hid ((HB.out.setCell (p := ⟨w.heap.size, 0, none⟩) (show w.heap.size ≤ w.heap.size by omega) (.int .i64 (hiW r))).setCell (p := ⟨w.heap.size, 1, none⟩) (show w.heap.size ≤ w.heap.size by omega) (.int .u64 (loW r)))
  clear yZ_0 yZ_1 yZ_z yZ_f0 yZ_f1
  generalize (w4.setCell ⟨w.heap.size, 0, none⟩ (.int .i64 (hiW r))).setCell ⟨w.heap.size, 1, none⟩ (.int .u64 (loW r)) = w5 at *
  simp only [List.set] at KZ
  have KV := Lib.hid (Blk.of (vs := #[.int .i64 (hiW r), .int .u64 (loW r)]) (t := 49) (w := w5) (b := w5.heap.size) rfl)
  have hb6 : Below w5.heap.size w5 (w5.alloc (.cells #[.int .i64 (hiW r), .int .u64 (loW r)] 49)) := (Below.refl _ _).alloc (Nat.le_refl _) _
  have hnV := HB.out.size
  have nzV_Z := KZ.out.lt
  replace HB := Lib.hid (HB.out.trans (hb6.mono HB.out.size))
  replace KZ := Lib.hid (KZ.out.below hb6)
  clear hb6
  generalize w5.alloc (.cells #[.int .i64 (hiW r), .int .u64 (loW r)] 49) = w6 at *
  generalize w5.heap.size = bV at *
  have neV_Z : bV ≠ w.heap.size := by omega
  clear nzV_Z
  have yZ := KZ.out
  have yZ_0 := yZ.c 0 _ rfl
  have yZ_1 := yZ.c 1 _ rfl
  have yZ_z := yZ.lt
  clear yZ
  refine bodyPost_ret (v := .agg #[.int .i64 (hiW r), .int .u64 (loW r)]) (by simp [results, Tryz.results61, go_sem, yZ_0, yZ_1]) rfl ⟨rfl, HB.out⟩
set_option maxHeartbeats 4000000 in
set_option maxRecDepth 100000 in
theorem rsub_any (x y : Int) (w : World) (hx : FitW x) (hy : FitW y) (hs : FitW (x - y)) :
    Calls Tryz.prog 64 #[wv x, wv y] w fun e w' => e = .returned (.tuple #[wv (x - y), .bool true]) ∧ Below w.heap.size w w' := by
  obtain ⟨p0, p1⟩ := lo_rng x
  obtain ⟨q0, q1⟩ := lo_rng y
  have E1 : IntKind.u64.wrap (loW x - loW y) = loW (x - y) := by rw [IntKind.wrap_u64]; unfold loW; omega
  have C1 : (decide (hiW x < 0) == decide (hiW y < 0)) = true ∨ ((decide (hiW x < 0) == decide (hiW y < 0)) = false ∧ (decide (hiW (x - y) < 0) == decide (hiW x < 0)) = true) := by
    obtain ⟨a, b⟩ := hs
    by_cases h1 : x < 0 <;> by_cases h2 : y < 0 <;> simp [hi_neg, h1, h2] <;> omega
  by_cases lt : loW x < loW y
  · have g0 : decide (loW x < loW y) = true := by simpa using lt
    have E2 : IntKind.i64.wrap (IntKind.u64.wrap (IntKind.u64.wrap (IntKind.u64.wrap (hiW x) - IntKind.u64.wrap (hiW y)) - 1)) = hiW (x - y) := by
      have e := sub_hi hs
      have eb : bor (loW x) (loW y) 0 = 1 := by unfold bor; rw [if_pos (by omega)]
      rw [eb] at e
      rw [← e]
      congr 1
      rw [IntKind.wrap_u64, IntKind.wrap_u64]
      omega
    clear hx hy hs lt p0 p1 q0 q1
    obtain ⟨h1, k1⟩ : ∃ m, IntKind.u64.wrap (IntKind.u64.wrap (hiW x) - IntKind.u64.wrap (hiW y)) = m := ⟨_, rfl⟩
    rw [k1] at E2
    obtain ⟨h2, k2⟩ : ∃ m, IntKind.u64.wrap (h1 - 1) = m := ⟨_, rfl⟩
    rw [k2] at E2
    unfold wv
    generalize hiW (x - y) = r1 at *
    generalize loW (x - y) = r2 at *
    rcases C1 with g | ⟨g, g'⟩
    all_goals
      go_enter Tryz.func64, Tryz.ntmps64
      go_wp2
      refine bodyPost_ret (v := .tuple #[.agg #[.int .i64 r1, .int .u64 r2], .bool true]) (by simp [results, Tryz.results64, go_sem]) rfl ⟨rfl, ?_⟩
      exact ((((Below.refl _ _).alloc (Nat.le_refl _) _).alloc (by simp) _).alloc (by simp; try omega) _).alloc (by simp; try omega) _
  · have g0 : decide (loW x < loW y) = false := by simpa using lt
    have E2 : IntKind.i64.wrap (IntKind.u64.wrap (IntKind.u64.wrap (hiW x) - IntKind.u64.wrap (hiW y))) = hiW (x - y) := by
      have e := sub_hi hs
      have eb : bor (loW x) (loW y) 0 = 0 := by unfold bor; rw [if_neg (by omega)]
      rw [eb] at e
      rw [← e]
      congr 1
      rw [IntKind.wrap_u64]
      omega
    clear hx hy hs lt p0 p1 q0 q1
    obtain ⟨h1, k1⟩ : ∃ m, IntKind.u64.wrap (IntKind.u64.wrap (hiW x) - IntKind.u64.wrap (hiW y)) = m := ⟨_, rfl⟩
    rw [k1] at E2
    unfold wv
    generalize hiW (x - y) = r1 at *
    generalize loW (x - y) = r2 at *
    rcases C1 with g | ⟨g, g'⟩
    all_goals
      go_enter Tryz.func64, Tryz.ntmps64
      go_wp2
      refine bodyPost_ret (v := .tuple #[.agg #[.int .i64 r1, .int .u64 r2], .bool true]) (by simp [results, Tryz.results64, go_sem]) rfl ⟨rfl, ?_⟩
      exact ((((Below.refl _ _).alloc (Nat.le_refl _) _).alloc (by simp) _).alloc (by simp; try omega) _).alloc (by simp; try omega) _
end Go.Proofs.YtplgdlooglnpmaaGreat
namespace Go.Proofs.YtplgdlooglnpmaaGreat
set_option linter.unusedVariables false
open Go.RowKit
set_option maxHeartbeats 8000000 in
set_option maxRecDepth 100000 in
theorem rneg_any (x : Int) (w : World) (hx : FitW x) (hn : FitW (-x)) :
    Calls Tryz.prog 92 #[wv x] w fun e w' => e = .returned (wv1 (-x)) ∧ Below w.heap.size w w' := by
  have SB := Lib.hid fun w => rsub_any 0 x w ⟨by omega, by omega⟩ hx (by rw [Int.zero_sub]; exact hn)
  unfold wv at SB
  simp only [show hiW 0 = 0 from rfl, show loW 0 = 0 from rfl, Int.zero_sub] at SB
  unfold wv1 wv
  generalize -x = r at *
  clear hx hn
  have KX := Lib.hid ((Blk.of (vs := #[.int .i64 (hiW x), .int .u64 (loW x)]) (t := 49) (w := w) (b := w.heap.size) (by simp)).alloc (.cells #[.int .i64 0, .int .u64 0] 49))
  have KZ := Lib.hid (Blk.of (vs := #[.int .i64 0, .int .u64 0]) (t := 49) (w := (w.alloc (.cells #[.int .i64 (hiW x), .int .u64 (loW x)] 49))) (b := w.heap.size + 1) (by simp))
  have HB := Lib.hid (((Below.refl w.heap.size w).alloc (by simp; try omega) (.cells #[.int .i64 (hiW x), .int .u64 (loW x)] 49)).alloc (by simp; try omega) (.cells #[.int .i64 0, .int .u64 0] 49))
  go_enter Tryz.func92, Tryz.ntmps92
  go_wp2_with fail
  generalize (w.alloc (.cells #[.int .i64 (hiW x), .int .u64 (loW x)] 49)).alloc (.cells #[.int .i64 0, .int .u64 0] 49) = w0 at *
  refine (SB.out _).mono ?_
  rintro e1 w1 ⟨rfl, hb1⟩
  replace HB := Lib.hid (HB.out.trans (hb1.mono HB.out.size))
  replace KX := Lib.hid (KX.out.below hb1)
  replace KZ := Lib.hid (KZ.out.below hb1)
  clear hb1
  have yZ := KZ.out
  have yZ_0 := yZ.c 0 _ rfl
  have yZ_1 := yZ.c 1 _ rfl
  have yZ_z := yZ.lt
  have yZ_f0 := yZ.f 0 _ rfl
  have yZ_f1 := yZ.f 1 _ rfl
  clear yZ
  go_wp2
  replace KX := Lib.hid (blk_other (b := w.heap.size) (n := (w.heap.size + 1)) (j := 1) (blk_other (b := w.heap.size) (n := (w.heap.size + 1)) (j := 0) KX.out (by omega) (.int .i64 (hiW r))) (by omega) (.int .u64 (loW r)))
  replace KZ := Lib.hid (blk_set (blk_set KZ.out (j := 0) (by simp) (.int .i64 (hiW r))) (j := 1) (by simp) (.int .u64 (loW r)))
  replace HB := Lib.hid ((HB.out.setCell (p := ⟨(w.heap.size + 1), 0, none⟩) (show w.heap.size ≤ (w.heap.size + 1) by omega) (.int .i64 (hiW r))).setCell (p := ⟨(w.heap.size + 1), 1, none⟩) (show w.heap.size ≤ (w.heap.size + 1) by omega) (.int .u64 (loW r)))
  clear yZ_0 yZ_1 yZ_z yZ_f0 yZ_f1
  generalize (w1.setCell ⟨(w.heap.size + 1), 0, none⟩ (.int .i64 (hiW r))).setCell ⟨(w.heap.size + 1), 1, none⟩ (.int .u64 (loW r)) = w2 at *
  simp only [List.set] at KZ
  have yZ := KZ.out
  have yZ_0 := yZ.c 0 _ rfl
  have yZ_1 := yZ.c 1 _ rfl
  have yZ_z := yZ.lt
  clear yZ
  refine bodyPost_ret (v := .tuple #[.agg #[.int .i64 (hiW r), .int .u64 (loW r)], .bool true]) (by simp [results, Tryz.results92, go_sem, yZ_0, yZ_1]) rfl ⟨rfl, HB.out⟩
set_option maxHeartbeats 8000000 in
set_option maxRecDepth 100000 in
theorem rabs_any (x : Int) (w : World) (hx : FitW x) (hn : FitW (-x)) :
    Calls Tryz.prog 60 #[wv x] w fun e w' => e = .returned (wv1 (absZ x)) ∧ Below w.heap.size w w' := by
  by_cases h : x < 0
  · have NG := Lib.hid fun w => rneg_any x w hx hn
    have g : decide (hiW x < 0) = true := by have := (hi_neg x).2 h; simpa using this
    rw [show absZ x = -x by unfold absZ; rw [if_pos h]]
    unfold wv1 wv at *
    generalize -x = r at *
    clear hx hn h
    have KX := Lib.hid ((Blk.of (vs := #[.int .i64 (hiW x), .int .u64 (loW x)]) (t := 49) (w := w) (b := w.heap.size) (by simp)).alloc (.cells #[.int .i64 0, .int .u64 0] 49))
    have KZ := Lib.hid (Blk.of (vs := #[.int .i64 0, .int .u64 0]) (t := 49) (w := (w.alloc (.cells #[.int .i64 (hiW x), .int .u64 (loW x)] 49))) (b := w.heap.size + 1) (by simp))
    have HB := Lib.hid (((Below.refl w.heap.size w).alloc (by simp; try omega) (.cells #[.int .i64 (hiW x), .int .u64 (loW x)] 49)).alloc (by simp; try omega) (.cells #[.int .i64 0, .int .u64 0] 49))
    go_enter Tryz.func60, Tryz.ntmps60
    go_wp2_with fail
    generalize (w.alloc (.cells #[.int .i64 (hiW x), .int .u64 (loW x)] 49)).alloc (.cells #[.int .i64 0, .int .u64 0] 49) = w0 at *
    refine (NG.out _).mono ?_
    rintro e1 w1 ⟨rfl, hb1⟩
    replace HB := Lib.hid (HB.out.trans (hb1.mono HB.out.size))
    replace KX := Lib.hid (KX.out.below hb1)
    replace KZ := Lib.hid (KZ.out.below hb1)
    clear hb1
    have yZ := KZ.out
    have yZ_0 := yZ.c 0 _ rfl
    have yZ_1 := yZ.c 1 _ rfl
    have yZ_z := yZ.lt
    have yZ_f0 := yZ.f 0 _ rfl
    have yZ_f1 := yZ.f 1 _ rfl
    clear yZ
    go_wp2
    replace KX := Lib.hid (blk_other (b := w.heap.size) (n := (w.heap.size + 1)) (j := 1) (blk_other (b := w.heap.size) (n := (w.heap.size + 1)) (j := 0) KX.out (by omega) (.int .i64 (hiW r))) (by omega) (.int .u64 (loW r)))
    replace KZ := Lib.hid (blk_set (blk_set KZ.out (j := 0) (by simp) (.int .i64 (hiW r))) (j := 1) (by simp) (.int .u64 (loW r)))
    replace HB := Lib.hid ((HB.out.setCell (p := ⟨(w.heap.size + 1), 0, none⟩) (show w.heap.size ≤ (w.heap.size + 1) by omega) (.int .i64 (hiW r))).setCell (p := ⟨(w.heap.size + 1), 1, none⟩) (show w.heap.size ≤ (w.heap.size + 1) by omega) (.int .u64 (loW r)))
    clear yZ_0 yZ_1 yZ_z yZ_f0 yZ_f1
    generalize (w1.setCell ⟨(w.heap.size + 1), 0, none⟩ (.int .i64 (hiW r))).setCell ⟨(w.heap.size + 1), 1, none⟩ (.int .u64 (loW r)) = w2 at *
    simp only [List.set] at KZ
    have yZ := KZ.out
    have yZ_0 := yZ.c 0 _ rfl
    have yZ_1 := yZ.c 1 _ rfl
    have yZ_z := yZ.lt
    clear yZ
    refine bodyPost_ret (v := .tuple #[.agg #[.int .i64 (hiW r), .int .u64 (loW r)], .bool true]) (by simp [results, Tryz.results60, go_sem, yZ_0, yZ_1]) rfl ⟨rfl, HB.out⟩
  · have g : decide (hiW x < 0) = false := by have := hi_neg x; simp; omega
    rw [show absZ x = x by unfold absZ; rw [if_neg h]]
    unfold wv1 wv
    clear hx hn h
    have KX := Lib.hid ((Blk.of (vs := #[.int .i64 (hiW x), .int .u64 (loW x)]) (t := 49) (w := w) (b := w.heap.size) (by simp)).alloc (.cells #[.int .i64 0, .int .u64 0] 49))
    have KZ := Lib.hid (Blk.of (vs := #[.int .i64 0, .int .u64 0]) (t := 49) (w := (w.alloc (.cells #[.int .i64 (hiW x), .int .u64 (loW x)] 49))) (b := w.heap.size + 1) (by simp))
    have HB := Lib.hid (((Below.refl w.heap.size w).alloc (by simp; try omega) (.cells #[.int .i64 (hiW x), .int .u64 (loW x)] 49)).alloc (by simp; try omega) (.cells #[.int .i64 0, .int .u64 0] 49))
    go_enter Tryz.func60, Tryz.ntmps60
    go_wp2
    refine bodyPost_ret (v := .tuple #[.agg #[.int .i64 (hiW x), .int .u64 (loW x)], .bool true]) (by simp [results, Tryz.results60, go_sem]) rfl ⟨rfl, ?_⟩
    exact ((Below.refl _ _).alloc (Nat.le_refl _) _).alloc (by simp) _
end Go.Proofs.YtplgdlooglnpmaaGreat
namespace Go.Proofs.YtplgdlooglnpmaaGreat
set_option linter.unusedVariables false
open Go.RowKit
set_option maxHeartbeats 4000000 in
set_option maxRecDepth 100000 in
theorem radd_any (x y : Int) (w : World) (hx : FitW x) (hy : FitW y) (hs : FitW (x + y)) :
    Calls Tryz.prog 63 #[wv x, wv y] w fun e w' => e = .returned (.tuple #[wv (x + y), .bool true]) ∧ Below w.heap.size w w' := by
  obtain ⟨p0, p1⟩ := lo_rng x
  obtain ⟨q0, q1⟩ := lo_rng y
  have E1 : IntKind.u64.wrap (loW x + loW y) = loW (x + y) := by rw [IntKind.wrap_u64]; unfold loW; omega
  have C1 : (decide (hiW x < 0) == decide (hiW y < 0)) = false ∨ ((decide (hiW x < 0) == decide (hiW y < 0)) = true ∧ (decide (hiW (x + y) < 0) == decide (hiW x < 0)) = true) := by
    obtain ⟨a, b⟩ := hs
    by_cases h1 : x < 0 <;> by_cases h2 : y < 0 <;> simp [hi_neg, h1, h2] <;> omega
  by_cases lt : loW (x + y) < loW x
  · have g0 : decide (loW (x + y) < loW x) = true := by simpa using lt
    have E2 : IntKind.i64.wrap (IntKind.u64.wrap (IntKind.u64.wrap (IntKind.u64.wrap (hiW x) + IntKind.u64.wrap (hiW y)) + 1)) = hiW (x + y) := by
      have e := add_hi hs
      rw [← e]
      congr 1
      have ek : (loW x + loW y + 0) / 18446744073709551616 = 1 := by unfold loW at *; omega
      rw [ek]
      rw [IntKind.wrap_u64, IntKind.wrap_u64]
      omega
    clear hx hy hs lt p0 p1 q0 q1
    obtain ⟨h1, k1⟩ : ∃ m, IntKind.u64.wrap (IntKind.u64.wrap (hiW x) + IntKind.u64.wrap (hiW y)) = m := ⟨_, rfl⟩
    rw [k1] at E2
    obtain ⟨h2, k2⟩ : ∃ m, IntKind.u64.wrap (h1 + 1) = m := ⟨_, rfl⟩
    rw [k2] at E2
    unfold wv
    generalize hiW (x + y) = r1 at *
    generalize loW (x + y) = r2 at *
    rcases C1 with g | ⟨g, g'⟩
    all_goals
      go_enter Tryz.func63, Tryz.ntmps63
      go_wp2
      refine bodyPost_ret (v := .tuple #[.agg #[.int .i64 r1, .int .u64 r2], .bool true]) (by simp [results, Tryz.results63, go_sem]) rfl ⟨rfl, ?_⟩
      exact ((((Below.refl _ _).alloc (Nat.le_refl _) _).alloc (by simp) _).alloc (by simp; try omega) _).alloc (by simp; try omega) _
  · have g0 : decide (loW (x + y) < loW x) = false := by simpa using lt
    have E2 : IntKind.i64.wrap (IntKind.u64.wrap (IntKind.u64.wrap (hiW x) + IntKind.u64.wrap (hiW y))) = hiW (x + y) := by
      have e := add_hi hs
      rw [← e]
      congr 1
      have ek : (loW x + loW y + 0) / 18446744073709551616 = 0 := by unfold loW at *; omega
      rw [ek]
      rw [IntKind.wrap_u64]
      omega
    clear hx hy hs lt p0 p1 q0 q1
    obtain ⟨h1, k1⟩ : ∃ m, IntKind.u64.wrap (IntKind.u64.wrap (hiW x) + IntKind.u64.wrap (hiW y)) = m := ⟨_, rfl⟩
    rw [k1] at E2
    unfold wv
    generalize hiW (x + y) = r1 at *
    generalize loW (x + y) = r2 at *
    rcases C1 with g | ⟨g, g'⟩
    all_goals
      go_enter Tryz.func63, Tryz.ntmps63
      go_wp2
      refine bodyPost_ret (v := .tuple #[.agg #[.int .i64 r1, .int .u64 r2], .bool true]) (by simp [results, Tryz.results63, go_sem]) rfl ⟨rfl, ?_⟩
      exact ((((Below.refl _ _).alloc (Nat.le_refl _) _).alloc (by simp) _).alloc (by simp; try omega) _).alloc (by simp; try omega) _
end Go.Proofs.YtplgdlooglnpmaaGreat
namespace Go.Proofs.YtplgdlooglnpmaaGreat
set_option linter.unusedVariables false
open Go.RowKit
set_option maxHeartbeats 8000000 in
set_option maxRecDepth 100000 in
theorem rplus_any (x y : Int) (w : World) (hx : FitW x) (hy : FitW y) (hf : FitW (x + y)) :
    Calls Tryz.prog 31 #[wv x, wv y] w fun e w' => e = .returned (wv (x + y)) ∧ Below w.heap.size w w' := by
  have AD := Lib.hid fun w => radd_any x y w hx hy hf
  unfold wv at *
  generalize x + y = r at *
  clear hx hy hf
  have KX := Lib.hid (((Blk.of (vs := #[.int .i64 (hiW x), .int .u64 (loW x)]) (t := 49) (w := w) (b := w.heap.size) (by simp)).alloc (.cells #[.int .i64 (hiW y), .int .u64 (loW y)] 49)).alloc (.cells #[.int .i64 0, .int .u64 0] 49))
  have KY := Lib.hid ((Blk.of (vs := #[.int .i64 (hiW y), .int .u64 (loW y)]) (t := 49) (w := (w.alloc (.cells #[.int .i64 (hiW x), .int .u64 (loW x)] 49))) (b := w.heap.size + 1) (by simp)).alloc (.cells #[.int .i64 0, .int .u64 0] 49))
  have KZ := Lib.hid (Blk.of (vs := #[.int .i64 0, .int .u64 0]) (t := 49) (w := ((w.alloc (.cells #[.int .i64 (hiW x), .int .u64 (loW x)] 49)).alloc (.cells #[.int .i64 (hiW y), .int .u64 (loW y)] 49))) (b := w.heap.size + 1 + 1) (by simp))
  have HB := Lib.hid ((((Below.refl w.heap.size w).alloc (by simp; try omega) (.cells #[.int .i64 (hiW x), .int .u64 (loW x)] 49)).alloc (by simp; try omega) (.cells #[.int .i64 (hiW y), .int .u64 (loW y)] 49)).alloc (by simp; try omega) (.cells #[.int .i64 0, .int .u64 0] 49))
  go_enter Tryz.func31, Tryz.ntmps31
  go_wp2_with fail
  generalize ((w.alloc (.cells #[.int .i64 (hiW x), .int .u64 (loW x)] 49)).alloc (.cells #[.int .i64 (hiW y), .int .u64 (loW y)] 49)).alloc (.cells #[.int .i64 0, .int .u64 0] 49) = w0 at *
  refine (AD.out _).mono ?_
  rintro e1 w1 ⟨rfl, hb1⟩
  replace HB := Lib.hid (HB.out.trans (hb1.mono HB.out.size))
  replace KX := Lib.hid (KX.out.below hb1)
  replace KY := Lib.hid (KY.out.below hb1)
  replace KZ := Lib.hid (KZ.out.below hb1)
  clear hb1
  have yZ := KZ.out
  have yZ_0 := yZ.c 0 _ rfl
  have yZ_1 := yZ.c 1 _ rfl
  have yZ_z := yZ.lt
  have yZ_f0 := yZ.f 0 _ rfl
  have yZ_f1 := yZ.f 1 _ rfl
  clear yZ
  go_wp2
  replace KX := Lib.hid (blk_other (b := w.heap.size) (n := (w.heap.size + 1 + 1)) (j := 1) (blk_other (b := w.heap.size) (n := (w.heap.size + 1 + 1)) (j := 0) KX.out (by omega) (.int .i64 (hiW r))) (by omega) (.int .u64 (loW r)))
  replace KY := Lib.hid (blk_other (b := (w.heap.size + 1)) (n := (w.heap.size + 1 + 1)) (j := 1) (blk_other (b := (w.heap.size + 1)) (n := (w.heap.size + 1 + 1)) (j := 0) KY.out (by omega) (.int .i64 (hiW r))) (by omega) (.int .u64 (loW r)))
  replace KZ := Lib.hid (blk_set (blk_set KZ.out (j := 0) (by simp) (.int .i64 (hiW r))) (j := 1) (by simp) (.int .u64 (loW r)))
  replace HB := Lib.hid ((HB.out.setCell (p := ⟨(w.heap.size + 1 + 1), 0, none⟩) (show w.heap.size ≤ (w.heap.size + 1 + 1) by omega) (.int .i64 (hiW r))).setCell (p := ⟨(w.heap.size + 1 + 1), 1, none⟩) (show w.heap.size ≤ (w.heap.size + 1 + 1) by omega) (.int .u64 (loW r)))
  clear yZ_0 yZ_1 yZ_z yZ_f0 yZ_f1
  generalize (w1.setCell ⟨(w.heap.size + 1 + 1), 0, none⟩ (.int .i64 (hiW r))).setCell ⟨(w.heap.size + 1 + 1), 1, none⟩ (.int .u64 (loW r)) = w2 at *
  simp only [List.set] at KZ
  have KV := Lib.hid (Blk.of (vs := #[.int .i64 (hiW r), .int .u64 (loW r)]) (t := 49) (w := w2) (b := w2.heap.size) rfl)
  have hb3 : Below w2.heap.size w2 (w2.alloc (.cells #[.int .i64 (hiW r), .int .u64 (loW r)] 49)) := (Below.refl _ _).alloc (Nat.le_refl _) _
  have hnV := HB.out.size
  have nzV_X := KX.out.lt
  have nzV_Y := KY.out.lt
  have nzV_Z := KZ.out.lt
  replace HB := Lib.hid (HB.out.trans (hb3.mono HB.out.size))
  replace KX := Lib.hid (KX.out.below hb3)
  replace KY := Lib.hid (KY.out.below hb3)
  replace KZ := Lib.hid (KZ.out.below hb3)
  clear hb3
  generalize w2.alloc (.cells #[.int .i64 (hiW r), .int .u64 (loW r)] 49) = w3 at *
  generalize w2.heap.size = bV at *
  have neV_X : bV ≠ w.heap.size := by omega
  have neV_Y : bV ≠ (w.heap.size + 1) := by omega
  have neV_Z : bV ≠ (w.heap.size + 1 + 1) := by omega
  clear nzV_X nzV_Y nzV_Z
  have yZ := KZ.out
  have yZ_0 := yZ.c 0 _ rfl
  have yZ_1 := yZ.c 1 _ rfl
  have yZ_z := yZ.lt
  clear yZ
  refine bodyPost_ret (v := .agg #[.int .i64 (hiW r), .int .u64 (loW r)]) (by simp [results, Tryz.results31, go_sem, yZ_0, yZ_1]) rfl ⟨rfl, HB.out⟩
end Go.Proofs.YtplgdlooglnpmaaGreat
namespace Go.Proofs.YtplgdlooglnpmaaGreat
set_option linter.unusedVariables false
open Go.RowKit
theorem abs_term {w c d : Int} (hw : 0 ≤ w) (hd : 0 ≤ d) : absZ (w * c * d) = w * absZ c * d := by
  unfold absZ
  by_cases h : c < 0
  · rw [if_pos h]
    by_cases z : w * c * d < 0
    · rw [if_pos z, Int.mul_neg, Int.neg_mul]
    · rw [if_neg z]
      have h1 := Int.mul_nonneg (Int.mul_nonneg hw (show 0 ≤ -c by omega)) hd
      rw [Int.mul_neg, Int.neg_mul] at h1
      rw [Int.mul_neg, Int.neg_mul]
      omega
  · rw [if_neg h]
    have h1 := Int.mul_nonneg (Int.mul_nonneg hw (show 0 ≤ c by omega)) hd
    rw [if_neg (by omega)]
theorem absZ_both (x : Int) : x ≤ absZ x ∧ -x ≤ absZ x := by unfold absZ; split <;> omega
/-- one measurement of the reference's noise along an axis -/
structure RvHalf (u v a b : Int) (m : Ms) (U U1 : Int) : Prop where
  s1 : IntKind.i64.wrap (u * a) = u * a
  s2 : IntKind.i64.wrap (v * b) = v * b
  s3 : IntKind.i64.wrap (u * a - v * b) = u * a - v * b
  s4 : IntKind.i64.wrap (m.w * (u * a - v * b)) = m.w * (u * a - v * b)
  mu : ∀ w, Calls Tryz.prog 61 #[.int .i64 (m.w * (u * a - v * b)), .int .i64 m.d] w fun e w' => e = .returned (wv (m.w * (u * a - v * b) * m.d)) ∧ Below w.heap.size w w'
  ab : ∀ w, Calls Tryz.prog 60 #[wv (m.w * (u * a - v * b) * m.d)] w fun e w' => e = .returned (wv1 (m.w * absZ (u * a - v * b) * m.d)) ∧ Below w.heap.size w w'
  pl : ∀ w, Calls Tryz.prog 31 #[wv U, wv (m.w * absZ (u * a - v * b) * m.d)] w fun e w' => e = .returned (wv U1) ∧ Below w.heap.size w w'
theorem rv_half {m : Ms} (o : OkM m) {u v a b U U1 : Int} (hu0 : -16777216 ≤ u) (hu : u ≤ 16777216) (hv0 : -16777216 ≤ v) (hv : v ≤ 16777216) (ha0 : -256 ≤ a) (ha : a ≤ 256) (hb0 : -256 ≤ b) (hb : b ≤ 256)
    (hU0 : 0 ≤ U) (hU : U ≤ 9444732965739290427392) (e : U1 = U + m.w * absZ (u * a - v * b) * m.d) : RvHalf u v a b m U U1 := by
  obtain ⟨t0, t1, t2, t3, t4, t5⟩ := noi_term o hu0 hu hv0 hv ha0 ha hb0 hb
  have p1 := mulb (X := 16777216) (Y := 256) (by omega) hu0 hu ha0 ha
  have p2 := mulb (X := 16777216) (Y := 256) (by omega) hv0 hv hb0 hb
  have d0 := o.d0
  have d1 := o.d1
  have w0 := o.w0
  have w1 := o.w1
  have p3 := mulb (X := 16) (Y := 8589934592) (x := m.w) (y := u * a - v * b) (by omega) (by omega) w1 (by omega) (by omega)
  have ea := abs_term (c := u * a - v * b) (show 0 ≤ m.w by omega) d0
  have bb := absZ_both (m.w * (u * a - v * b) * m.d)
  rw [ea] at bb
  refine ⟨IntWalk.i64_in _ (by omega), IntWalk.i64_in _ (by omega), IntWalk.i64_in _ (by omega), IntWalk.i64_in _ (by omega), fun w => rmul_any _ _ w (by omega) (by omega) (by omega) (by omega), fun w => ?_, fun w => ?_⟩
  · rw [← ea]
    exact rabs_any _ w ⟨by omega, by omega⟩ ⟨by omega, by omega⟩
  · rw [e]
    exact rplus_any _ _ w ⟨by omega, by omega⟩ ⟨by omega, by omega⟩ ⟨by omega, by omega⟩
theorem rv_step {l : List Ms} (h : OkL l) {k : Nat} (q : k < l.length) :
    RvHalf (nYY l) (nXY l) (nth l k).a (nth l k).b (nth l k) (sumL (nxF l) (l.take k)) (sumL (nxF l) (l.take (k + 1))) ∧ RvHalf (nXX l) (nXY l) (nth l k).b (nth l k).a (nth l k) (sumL (nyF l) (l.take k)) (sumL (nyF l) (l.take (k + 1))) := by
  obtain ⟨⟨a0, a1⟩, ⟨b0, b1⟩, ⟨c0, c1⟩, _, _⟩ := nrm_bd h
  have o := h.ok _ (nth_mem q)
  have N := noi_part h k
  exact ⟨rv_half o c0 c1 b0 b1 o.a0 o.a1 o.b0 o.b1 N.1.1 N.1.2 (sum_take _ q), rv_half o a0 a1 b0 b1 o.b0 o.b1 o.a0 o.a1 N.2.1 N.2.2 (sum_take _ q)⟩
def RvR (l : List Ms) (p : Option Addr) (cap : Nat) (w : World) (bn : Nat) (u : Value) (wr : World) : Prop := ∃ k : Nat, u = .int .i64 k ∧ k ≤ l.length ∧ Hid (Below w.heap.size w wr) ∧ Hid (Blk [.int .i64 (nXX l), .int .i64 (nXY l), .int .i64 (nYY l), .int .i64 (nXZ l), .int .i64 (nYZ l)] bn wr) ∧ Hid (Blk [.int .i64 (hiW (sumL (nxF l) (l.take k))), .int .u64 (loW (sumL (nxF l) (l.take k)))] w.heap.size wr) ∧ Hid (Blk [.int .i64 (hiW (sumL (nyF l) (l.take k))), .int .u64 (loW (sumL (nyF l) (l.take k)))] (w.heap.size + 1) wr)
set_option maxHeartbeats 40000000 in
set_option maxRecDepth 100000 in
theorem rnoise_any (l : List Ms) (v : Value) (w : World) (h : LstAt l v w) (hc : chkL l = 0) :
    Calls Tryz.prog 29 #[v] w fun e w' => e = .returned (.tuple #[.agg #[.int .i64 (hiW (noiX l)), .int .u64 (loW (noiX l))], .agg #[.int .i64 (hiW (noiY l)), .int .u64 (loW (noiY l))]]) ∧ Below w.heap.size w w' := by
  obtain ⟨p, cap, rfl⟩ := lst_form h
  have OL := Lib.hid (okL_of hc)
  have NO := Lib.hid fun w h => rnormal_any l (.slice p l.length cap) w h hc
  clear hc
  obtain ⟨A, EA⟩ : ∃ x, nXX l = x := ⟨_, rfl⟩
  obtain ⟨B, EB⟩ : ∃ x, nXY l = x := ⟨_, rfl⟩
  obtain ⟨C, EC⟩ : ∃ x, nYY l = x := ⟨_, rfl⟩
  obtain ⟨D, ED⟩ : ∃ x, nXZ l = x := ⟨_, rfl⟩
  obtain ⟨E, EE⟩ : ∃ x, nYZ l = x := ⟨_, rfl⟩
  rw [EA, EB, EC, ED, EE] at NO
  have HA := Lib.hid EA
  have HBB := Lib.hid EB
  have HC := Lib.hid EC
  have HD := Lib.hid ED
  have HE := Lib.hid EE
  clear EA EB EC ED EE
  have H0 := Lib.hid h
  have KX := Lib.hid ((Blk.of (vs := #[.int .i64 0, .int .u64 0]) (t := 49) (w := w) (b := w.heap.size) (by simp)).alloc (.cells #[.int .i64 0, .int .u64 0] 49))
  have KY := Lib.hid (Blk.of (vs := #[.int .i64 0, .int .u64 0]) (t := 49) (w := (w.alloc (.cells #[.int .i64 0, .int .u64 0] 49))) (b := w.heap.size + 1) (by simp))
  have HB := Lib.hid (((Below.refl w.heap.size w).alloc (by simp; try omega) (.cells #[.int .i64 0, .int .u64 0] 49)).alloc (by simp; try omega) (.cells #[.int .i64 0, .int .u64 0] 49))
  go_enter Tryz.func29, Tryz.ntmps29
  clear h
  go_wp2_with fail
  generalize (w.alloc (.cells #[.int .i64 0, .int .u64 0] 49)).alloc (.cells #[.int .i64 0, .int .u64 0] 49) = w0 at *
  refine (NO.out _ (H0.out.below HB.out)).mono ?_
  rintro e1 w1 ⟨rfl, hb1⟩
  replace HB := Lib.hid (HB.out.trans (hb1.mono HB.out.size))
  replace KX := Lib.hid (KX.out.below hb1)
  replace KY := Lib.hid (KY.out.below hb1)
  clear hb1
  go_wp2
  have KN := Lib.hid (Blk.of (vs := #[.int .i64 A, .int .i64 B, .int .i64 C, .int .i64 D, .int .i64 E]) (t := 81) (w := w1) (b := w1.heap.size) rfl)
  have hb2 : Below w1.heap.size w1 (w1.alloc (.cells #[.int .i64 A, .int .i64 B, .int .i64 C, .int .i64 D, .int .i64 E] 81)) := (Below.refl _ _).alloc (Nat.le_refl _) _
  have hnN := HB.out.size
  have nzN_X := KX.out.lt
  have nzN_Y := KY.out.lt
  replace HB := Lib.hid (HB.out.trans (hb2.mono HB.out.size))
  replace KX := Lib.hid (KX.out.below hb2)
  replace KY := Lib.hid (KY.out.below hb2)
  clear hb2
  generalize w1.alloc (.cells #[.int .i64 A, .int .i64 B, .int .i64 C, .int .i64 D, .int .i64 E] 81) = w2 at *
  generalize w1.heap.size = bN at *
  have neN_X : bN ≠ w.heap.size := by omega
  have neN_Y : bN ≠ (w.heap.size + 1) := by omega
  clear nzN_X nzN_Y
  go_loopw [19] (RvR l p cap w bN) (fun i _ => l.length - (intOf i).toNat)
  case atStart => exact ⟨0, rfl, Nat.zero_le _, HB, by rw [HA.out, HBB.out, HC.out, HD.out, HE.out]; exact KN, by rw [List.take_zero]; exact KX, by rw [List.take_zero]; exact KY⟩
  case round =>
    clear HB KN KX KY
    obtain ⟨k, rfl, hk, HB, KN, KX, KY⟩ := hrel
    rw [HA.out, HBB.out, HC.out, HD.out, HE.out] at KN
    by_cases q : k < l.length
    · have q' : decide (k < l.length) = true := by simpa using q
      obtain ⟨b, o, rfl, hcap, hmax, MM⟩ := lst_at (H0.out.below HB.out) q
      have c0 := MM.c0 k q
      have c1 := MM.c1 k q
      have c2 := MM.c2 k q
      have c3 := MM.c3 k q
      have c4 := MM.c4 k q
      have c5 := MM.c5 k q
      have clt := MM.lt
      obtain ⟨S1, S2⟩ := rv_step OL.out q
      clear MM
      rw [HC.out, HBB.out] at S1
      rw [HA.out, HBB.out] at S2
      generalize nth l k = m at *
      generalize sumL (nxF l) (l.take k) = U at *
      generalize sumL (nyF l) (l.take k) = V at *
      obtain ⟨U1, EU⟩ : ∃ x, sumL (nxF l) (l.take (k + 1)) = x := ⟨_, rfl⟩
      obtain ⟨V1, EV⟩ : ∃ x, sumL (nyF l) (l.take (k + 1)) = x := ⟨_, rfl⟩
      rw [EU] at S1
      rw [EV] at S2
      have HU := Lib.hid EU
      have HV := Lib.hid EV
      obtain ⟨s1, s2, s3, s4, mu1, ab1, pl1⟩ := S1
      obtain ⟨t1, t2, t3, t4, mu2, ab2, pl2⟩ := S2
      clear EU EV
      unfold wv at mu1 pl1 mu2 pl2
      unfold wv1 wv at ab1 ab2
      have MU1 := Lib.hid mu1
      have AB1 := Lib.hid ab1
      have PL1 := Lib.hid pl1
      have MU2 := Lib.hid mu2
      have AB2 := Lib.hid ab2
      have PL2 := Lib.hid pl2
      clear ab1 mu1 pl1 ab2 mu2 pl2
      generalize m.w * absZ (C * m.a - B * m.b) * m.d = p1 at *
      generalize m.w * absZ (A * m.b - B * m.a) * m.d = p2 at *
      obtain ⟨e1, hee1⟩ : ∃ x, m.w * (C * m.a - B * m.b) * m.d = x := ⟨_, rfl⟩
      rw [hee1] at MU1 AB1
      clear hee1
      obtain ⟨e2, hee2⟩ : ∃ x, m.w * (A * m.b - B * m.a) * m.d = x := ⟨_, rfl⟩
      rw [hee2] at MU2 AB2
      clear hee2
      have yN := KN.out
      have yN_0 := yN.c 0 _ rfl
      have yN_1 := yN.c 1 _ rfl
      have yN_2 := yN.c 2 _ rfl
      have yN_3 := yN.c 3 _ rfl
      have yN_4 := yN.c 4 _ rfl
      have yN_z := yN.lt
      clear yN
      go_wp2_with fail
      have KM := Lib.hid (Blk.of (vs := #[.int .i64 m.s, .int .i64 m.a, .int .i64 m.b, .int .i64 m.z, .int .i64 m.d, .int .i64 m.w]) (t := 70) (w := wr) (b := wr.heap.size) rfl)
      have hb51 : Below wr.heap.size wr (wr.alloc (.cells #[.int .i64 m.s, .int .i64 m.a, .int .i64 m.b, .int .i64 m.z, .int .i64 m.d, .int .i64 m.w] 70)) := (Below.refl _ _).alloc (Nat.le_refl _) _
      have hnM := HB.out.size
      have nzM_X := KX.out.lt
      have nzM_Y := KY.out.lt
      have nzM_N := KN.out.lt
      replace HB := Lib.hid (HB.out.trans (hb51.mono HB.out.size))
      replace KX := Lib.hid (KX.out.below hb51)
      replace KY := Lib.hid (KY.out.below hb51)
      replace KN := Lib.hid (KN.out.below hb51)
      clear yN_0 yN_1 yN_2 yN_3 yN_4 yN_z
      clear hb51
      generalize wr.alloc (.cells #[.int .i64 m.s, .int .i64 m.a, .int .i64 m.b, .int .i64 m.z, .int .i64 m.d, .int .i64 m.w] 70) = w51 at *
      generalize wr.heap.size = bM at *
      have neM_X : bM ≠ w.heap.size := by omega
      have neM_Y : bM ≠ (w.heap.size + 1) := by omega
      have neM_N : bM ≠ bN := by omega
      clear nzM_X nzM_Y nzM_N
      clear c0 c1 c2 c3 c4 c5 clt
      refine (MU1.out _).mono ?_
      rintro e52 w52 ⟨rfl, hb52⟩
      replace HB := Lib.hid (HB.out.trans (hb52.mono HB.out.size))
      replace KX := Lib.hid (KX.out.below hb52)
      replace KY := Lib.hid (KY.out.below hb52)
      replace KN := Lib.hid (KN.out.below hb52)
      replace KM := Lib.hid (KM.out.below hb52)
      clear hb52
      go_wp2_with fail
      refine (AB1.out _).mono ?_
      rintro e53 w53 ⟨rfl, hb53⟩
      replace HB := Lib.hid (HB.out.trans (hb53.mono HB.out.size))
      replace KX := Lib.hid (KX.out.below hb53)
      replace KY := Lib.hid (KY.out.below hb53)
      replace KN := Lib.hid (KN.out.below hb53)
      replace KM := Lib.hid (KM.out.below hb53)
      clear hb53
      clear s1 s2 s3 s4 MU1 AB1
      have yN := KN.out
      have yN_0 := yN.c 0 _ rfl
      have yN_1 := yN.c 1 _ rfl
      have yN_2 := yN.c 2 _ rfl
      have yN_3 := yN.c 3 _ rfl
      have yN_4 := yN.c 4 _ rfl
      have yN_z := yN.lt
      clear yN
      have yM := KM.out
      have yM_0 := yM.c 0 _ rfl
      have yM_1 := yM.c 1 _ rfl
      have yM_2 := yM.c 2 _ rfl
      have yM_3 := yM.c 3 _ rfl
      have yM_4 := yM.c 4 _ rfl
      have yM_5 := yM.c 5 _ rfl
      have yM_z := yM.lt
      clear yM
      go_wp2_with fail
      have KP := Lib.hid (Blk.of (vs := #[.int .i64 (hiW p1), .int .u64 (loW p1)]) (t := 49) (w := w53) (b := w53.heap.size) rfl)
      have hb54 : Below w53.heap.size w53 (w53.alloc (.cells #[.int .i64 (hiW p1), .int .u64 (loW p1)] 49)) := (Below.refl _ _).alloc (Nat.le_refl _) _
      have hnP := HB.out.size
      have nzP_X := KX.out.lt
      have nzP_Y := KY.out.lt
      have nzP_N := KN.out.lt
      have nzP_M := KM.out.lt
      replace HB := Lib.hid (HB.out.trans (hb54.mono HB.out.size))
      replace KX := Lib.hid (KX.out.below hb54)
      replace KY := Lib.hid (KY.out.below hb54)
      replace KN := Lib.hid (KN.out.below hb54)
      replace KM := Lib.hid (KM.out.below hb54)
      clear yN_0 yN_1 yN_2 yN_3 yN_4 yN_z yM_0 yM_1 yM_2 yM_3 yM_4 yM_5 yM_z
      clear hb54
      generalize w53.alloc (.cells #[.int .i64 (hiW p1), .int .u64 (loW p1)] 49) = w54 at *
      generalize w53.heap.size = bP at *
      have neP_X : bP ≠ w.heap.size := by omega
      have neP_Y : bP ≠ (w.heap.size + 1) := by omega
      have neP_N : bP ≠ bN := by omega
      have neP_M : bP ≠ bM := by omega
      clear nzP_X nzP_Y nzP_N nzP_M
      refine (MU2.out _).mono ?_
      rintro e55 w55 ⟨rfl, hb55⟩
      replace HB := Lib.hid (HB.out.trans (hb55.mono HB.out.size))
      replace KX := Lib.hid (KX.out.below hb55)
      replace KY := Lib.hid (KY.out.below hb55)
      replace KN := Lib.hid (KN.out.below hb55)
      replace KM := Lib.hid (KM.out.below hb55)
      replace KP := Lib.hid (KP.out.below hb55)
      clear hb55
      go_wp2_with fail
      refine (AB2.out _).mono ?_
      rintro e56 w56 ⟨rfl, hb56⟩
      replace HB := Lib.hid (HB.out.trans (hb56.mono HB.out.size))
      replace KX := Lib.hid (KX.out.below hb56)
      replace KY := Lib.hid (KY.out.below hb56)
      replace KN := Lib.hid (KN.out.below hb56)
      replace KM := Lib.hid (KM.out.below hb56)
      replace KP := Lib.hid (KP.out.below hb56)
      clear hb56
      clear t1 t2 t3 t4 MU2 AB2
      go_wp2_with fail
      have KQ := Lib.hid (Blk.of (vs := #[.int .i64 (hiW p2), .int .u64 (loW p2)]) (t := 49) (w := w56) (b := w56.heap.size) rfl)
      have hb57 : Below w56.heap.size w56 (w56.alloc (.cells #[.int .i64 (hiW p2), .int .u64 (loW p2)] 49)) := (Below.refl _ _).alloc (Nat.le_refl _) _
      have hnQ := HB.out.size
      have nzQ_X := KX.out.lt
      have nzQ_Y := KY.out.lt
      have nzQ_N := KN.out.lt
      have nzQ_M := KM.out.lt
      have nzQ_P := KP.out.lt
      replace HB := Lib.hid (HB.out.trans (hb57.mono HB.out.size))
      replace KX := Lib.hid (KX.out.below hb57)
      replace KY := Lib.hid (KY.out.below hb57)
      replace KN := Lib.hid (KN.out.below hb57)
      replace KM := Lib.hid (KM.out.below hb57)
      replace KP := Lib.hid (KP.out.below hb57)
      clear hb57
      generalize w56.alloc (.cells #[.int .i64 (hiW p2), .int .u64 (loW p2)] 49) = w57 at *
      generalize w56.heap.size = bQ at *
      have neQ_X : bQ ≠ w.heap.size := by omega
      have neQ_Y : bQ ≠ (w.heap.size + 1) := by omega
      have neQ_N : bQ ≠ bN := by omega
      have neQ_M : bQ ≠ bM := by omega
      have neQ_P : bQ ≠ bP := by omega
      clear nzQ_X nzQ_Y nzQ_N nzQ_M nzQ_P
      have gX_0 := fun d os => cell_regrown (KX.out.c 0 _ rfl) d os
      have gX_1 := fun d os => cell_regrown (KX.out.c 1 _ rfl) d os
      have gP_0 := fun d os => cell_regrown (KP.out.c 0 _ rfl) d os
      have gP_1 := fun d os => cell_regrown (KP.out.c 1 _ rfl) d os
      have gY_0 := fun d os => cell_regrown (KY.out.c 0 _ rfl) d os
      have gY_1 := fun d os => cell_regrown (KY.out.c 1 _ rfl) d os
      have gQ_0 := fun d os => cell_regrown (KQ.out.c 0 _ rfl) d os
      have gQ_1 := fun d os => cell_regrown (KQ.out.c 1 _ rfl) d os
      have rv0 := Lib.hid (fun d os => Calls.regrown_of (PL1.out (Go.Sort.grow (redrawn w57 d) os)))
      have rv1 := Lib.hid (fun d os => Calls.regrown_of (PL2.out (Go.Sort.grow (redrawn w57 d) os)))
      refine wp_region_quiet_below_tail 6 (by kernel_rfl) (by kernel_rfl) ?_
      simp only [List.take_succ_cons, List.take_zero, List.drop_succ_cons, List.drop_zero]
      repeat (quiet_step (first | with_reducible exact rv0.out _ _ | with_reducible exact rv1.out _ _))
      refine wpQuiet_nil ?_
      intro w58 hw58
      have hb58 : Below w57.heap.size w57 w58 := by
        obtain ⟨⟨dq, osq⟩, hw2⟩ := hw58
        rw [hw2]; exact below_regrown _ dq osq
      clear gX_0 gX_1 gP_0 gP_1 gY_0 gY_1 gQ_0 gQ_1 rv0 rv1 hw58
      replace HB := Lib.hid (HB.out.trans (hb58.mono HB.out.size))
      replace KX := Lib.hid (KX.out.below hb58)
      replace KY := Lib.hid (KY.out.below hb58)
      replace KN := Lib.hid (KN.out.below hb58)
      replace KM := Lib.hid (KM.out.below hb58)
      replace KP := Lib.hid (KP.out.below hb58)
      replace KQ := Lib.hid (KQ.out.below hb58)
      clear hb58
      have yX := KX.out
      have yX_0 := yX.c 0 _ rfl
      have yX_1 := yX.c 1 _ rfl
      have yX_z := yX.lt
      have yX_f0 := yX.f 0 _ rfl
      have yX_f1 := yX.f 1 _ rfl
      clear yX
      have yY := KY.out
      have yY_0 := yY.c 0 _ rfl
      have yY_1 := yY.c 1 _ rfl
      have yY_z := yY.lt
      have yY_f0 := yY.f 0 _ rfl
      have yY_f1 := yY.f 1 _ rfl
      clear yY
      go_wp2
      replace KX := Lib.hid (blk_set (blk_set KX.out (j := 0) (by simp) (.int .i64 (hiW U1))) (j := 1) (by simp) (.int .u64 (loW U1)))
      replace KY := Lib.hid (blk_other (b := (w.heap.size + 1)) (n := w.heap.size) (j := 1) (blk_other (b := (w.heap.size + 1)) (n := w.heap.size) (j := 0) KY.out (by omega) (.int .i64 (hiW U1))) (by omega) (.int .u64 (loW U1)))
      replace KN := Lib.hid (blk_other (b := bN) (n := w.heap.size) (j := 1) (blk_other (b := bN) (n := w.heap.size) (j := 0) KN.out (by omega) (.int .i64 (hiW U1))) (by omega) (.int .u64 (loW U1)))
      replace KM := Lib.hid (blk_other (b := bM) (n := w.heap.size) (j := 1) (blk_other (b := bM) (n := w.heap.size) (j := 0) KM.out (by omega) (.int .i64 (hiW U1))) (by omega) (.int .u64 (loW U1)))
      replace KP := Lib.hid (blk_other (b := bP) (n := w.heap.size) (j := 1) (blk_other (b := bP) (n := w.heap.size) (j := 0) KP.out (by omega) (.int .i64 (hiW U1))) (by omega) (.int .u64 (loW U1)))
      replace KQ := Lib.hid (blk_other (b := bQ) (n := w.heap.size) (j := 1) (blk_other (b := bQ) (n := w.heap.size) (j := 0) KQ.out (by omega) (.int .i64 (hiW U1))) (by omega) (.int .u64 (loW U1)))
      replace HB := Lib.hid ((HB.out.setCell (p := ⟨w.heap.size, 0, none⟩) (show w.heap.size ≤ w.heap.size by omega) (.int .i64 (hiW U1))).setCell (p := ⟨w.heap.size, 1, none⟩) (show w.heap.size ≤ w.heap.size by omega) (.int .u64 (loW U1)))
      clear yX_0 yX_1 yX_z yX_f0 yX_f1 yY_0 yY_1 yY_z yY_f0 yY_f1
      simp only [List.set] at KX
      replace KX := Lib.hid (blk_other (b := w.heap.size) (n := (w.heap.size + 1)) (j := 1) (blk_other (b := w.heap.size) (n := (w.heap.size + 1)) (j := 0) KX.out (by omega) (.int .i64 (hiW V1))) (by omega) (.int .u64 (loW V1)))
      replace KY := Lib.hid (blk_set (blk_set KY.out (j := 0) (by simp) (.int .i64 (hiW V1))) (j := 1) (by simp) (.int .u64 (loW V1)))
      replace KN := Lib.hid (blk_other (b := bN) (n := (w.heap.size + 1)) (j := 1) (blk_other (b := bN) (n := (w.heap.size + 1)) (j := 0) KN.out (by omega) (.int .i64 (hiW V1))) (by omega) (.int .u64 (loW V1)))
      replace KM := Lib.hid (blk_other (b := bM) (n := (w.heap.size + 1)) (j := 1) (blk_other (b := bM) (n := (w.heap.size + 1)) (j := 0) KM.out (by omega) (.int .i64 (hiW V1))) (by omega) (.int .u64 (loW V1)))
      replace KP := Lib.hid (blk_other (b := bP) (n := (w.heap.size + 1)) (j := 1) (blk_other (b := bP) (n := (w.heap.size + 1)) (j := 0) KP.out (by omega) (.int .i64 (hiW V1))) (by omega) (.int .u64 (loW V1)))
      replace KQ := Lib.hid (blk_other (b := bQ) (n := (w.heap.size + 1)) (j := 1) (blk_other (b := bQ) (n := (w.heap.size + 1)) (j := 0) KQ.out (by omega) (.int .i64 (hiW V1))) (by omega) (.int .u64 (loW V1)))
      replace HB := Lib.hid ((HB.out.setCell (p := ⟨(w.heap.size + 1), 0, none⟩) (show w.heap.size ≤ (w.heap.size + 1) by omega) (.int .i64 (hiW V1))).setCell (p := ⟨(w.heap.size + 1), 1, none⟩) (show w.heap.size ≤ (w.heap.size + 1) by omega) (.int .u64 (loW V1)))
      generalize (((w58.setCell ⟨w.heap.size, 0, none⟩ (.int .i64 (hiW U1))).setCell ⟨w.heap.size, 1, none⟩ (.int .u64 (loW U1))).setCell ⟨(w.heap.size + 1), 0, none⟩ (.int .i64 (hiW V1))).setCell ⟨(w.heap.size + 1), 1, none⟩ (.int .u64 (loW V1)) = w60 at *
      simp only [List.set] at KY
      exact ⟨⟨k + 1, by go_num, by omega, HB, by rw [HA.out, HBB.out, HC.out, HD.out, HE.out]; exact KN, by rw [HU.out]; exact KX, by rw [HV.out]; exact KY⟩, by simp [intOf]; omega⟩
    · obtain rfl : k = l.length := by omega
      rw [List.take_length] at KX KY
      rw [← noiX_is] at KX
      rw [← noiY_is] at KY
      obtain ⟨U, EU⟩ : ∃ x, noiX l = x := ⟨_, rfl⟩
      obtain ⟨V, EV⟩ : ∃ x, noiY l = x := ⟨_, rfl⟩
      rw [EU] at KX
      rw [EV] at KY
      have HU := Lib.hid EU
      have HV := Lib.hid EV
      clear EU EV
      have yX := KX.out
      have yX_0 := yX.c 0 _ rfl
      have yX_1 := yX.c 1 _ rfl
      have yX_z := yX.lt
      have yX_f0 := yX.f 0 _ rfl
      have yX_f1 := yX.f 1 _ rfl
      clear yX
      have yY := KY.out
      have yY_0 := yY.c 0 _ rfl
      have yY_1 := yY.c 1 _ rfl
      have yY_z := yY.lt
      have yY_f0 := yY.f 0 _ rfl
      have yY_f1 := yY.f 1 _ rfl
      clear yY
      go_wp2_with fail
      go_region
      replace KX := Lib.hid (blk_set (blk_set KX.out (j := 0) (by simp) (.int .i64 (hiW U))) (j := 1) (by simp) (.int .u64 (loW U)))
      replace KY := Lib.hid (blk_other (b := (w.heap.size + 1)) (n := w.heap.size) (j := 1) (blk_other (b := (w.heap.size + 1)) (n := w.heap.size) (j := 0) KY.out (by omega) (.int .i64 (hiW U))) (by omega) (.int .u64 (loW U)))
      replace KN := Lib.hid (blk_other (b := bN) (n := w.heap.size) (j := 1) (blk_other (b := bN) (n := w.heap.size) (j := 0) KN.out (by omega) (.int .i64 (hiW U))) (by omega) (.int .u64 (loW U)))
      replace HB := Lib.hid ((HB.out.setCell (p := ⟨w.heap.size, 0, none⟩) (show w.heap.size ≤ w.heap.size by omega) (.int .i64 (hiW U))).setCell (p := ⟨w.heap.size, 1, none⟩) (show w.heap.size ≤ w.heap.size by omega) (.int .u64 (loW U)))
      clear yX_0 yX_1 yX_z yX_f0 yX_f1 yY_0 yY_1 yY_z yY_f0 yY_f1
      simp only [List.set] at KX
      replace KX := Lib.hid (blk_other (b := w.heap.size) (n := (w.heap.size + 1)) (j := 1) (blk_other (b := w.heap.size) (n := (w.heap.size + 1)) (j := 0) KX.out (by omega) (.int .i64 (hiW V))) (by omega) (.int .u64 (loW V)))
      replace KY := Lib.hid (blk_set (blk_set KY.out (j := 0) (by simp) (.int .i64 (hiW V))) (j := 1) (by simp) (.int .u64 (loW V)))
      replace KN := Lib.hid (blk_other (b := bN) (n := (w.heap.size + 1)) (j := 1) (blk_other (b := bN) (n := (w.heap.size + 1)) (j := 0) KN.out (by omega) (.int .i64 (hiW V))) (by omega) (.int .u64 (loW V)))
      replace HB := Lib.hid ((HB.out.setCell (p := ⟨(w.heap.size + 1), 0, none⟩) (show w.heap.size ≤ (w.heap.size + 1) by omega) (.int .i64 (hiW V))).setCell (p := ⟨(w.heap.size + 1), 1, none⟩) (show w.heap.size ≤ (w.heap.size + 1) by omega) (.int .u64 (loW V)))
      simp only [List.set] at KY
      replace KX := Lib.hid (blk_drew1 KX.out)
      replace KY := Lib.hid (blk_drew1 KY.out)
      replace KN := Lib.hid (blk_drew1 KN.out)
      replace HB := Lib.hid (below_drew1 HB.out)
      generalize (((((wr.setCell ⟨w.heap.size, 0, none⟩ (.int .i64 (hiW U))).setCell ⟨w.heap.size, 1, none⟩ (.int .u64 (loW U))).setCell ⟨(w.heap.size + 1), 0, none⟩ (.int .i64 (hiW V))).setCell ⟨(w.heap.size + 1), 1, none⟩ (.int .u64 (loW V)))).drew = w53 at *
      have yX := KX.out
      have yX_0 := yX.c 0 _ rfl
      have yX_1 := yX.c 1 _ rfl
      have yX_z := yX.lt
      clear yX
      have yY := KY.out
      have yY_0 := yY.c 0 _ rfl
      have yY_1 := yY.c 1 _ rfl
      have yY_z := yY.lt
      clear yY
      go_wp2
      refine bodyPost_ret (v := .tuple #[.agg #[.int .i64 (hiW U), .int .u64 (loW U)], .agg #[.int .i64 (hiW V), .int .u64 (loW V)]]) (by simp [results, Tryz.results29, go_sem, yX_0, yX_1, yY_0, yY_1]) rfl ⟨by rw [HU.out, HV.out], HB.out⟩
end Go.Proofs.YtplgdlooglnpmaaGreat
namespace Go.Proofs.YtplgdlooglnpmaaGreat
set_option linter.unusedVariables false
open Go.RowKit
/-- what is left of the dividend, shifted up -/
def shM (N k : Nat) : Nat := N % 2 ^ k * 2 ^ (128 - k)
theorem sh_start {N : Nat} (h : N < 340282366920938463463374607431768211456) : shM N 128 = N := by
  unfold shM
  rw [Nat.mod_eq_of_lt (by omega), show 128 - 128 = 0 by rfl]
  omega
theorem sh_parts (N k : Nat) (h : k < 128) : ∃ p e : Nat, 0 < p ∧ 0 < e ∧ p * e = 170141183460469231731687303715884105728 ∧ shM N (k + 1) = (N % p + p * (N / p % 2)) * e ∧ shM N k = N % p * (2 * e) ∧ bD N k = N / p % 2 := by
  refine ⟨2 ^ k, 2 ^ (127 - k), Nat.pow_pos (by decide), Nat.pow_pos (by decide), ?_, ?_, ?_, rfl⟩
  · rw [← Nat.pow_add, show k + (127 - k) = 127 by omega]
  · unfold shM
    rw [Nat.pow_succ, Nat.mod_mul, show 128 - (k + 1) = 127 - k by omega]
  · unfold shM
    rw [show 128 - k = (127 - k) + 1 by omega, Nat.pow_succ, Nat.mul_comm 2]
theorem sh_top {N k : Nat} (h : k < 128) : shM N (k + 1) / 170141183460469231731687303715884105728 = bD N k ∧ 2 * shM N (k + 1) % 340282366920938463463374607431768211456 = shM N k ∧ shM N (k + 1) < 340282366920938463463374607431768211456 := by
  obtain ⟨p, e, hp, he, hpe, h1, h2, h3⟩ := sh_parts N k h
  have hr := Nat.mod_lt N hp
  have hb : N / p % 2 < 2 := Nat.mod_lt _ (by decide)
  rw [h1, h2, h3, show (340282366920938463463374607431768211456 : Nat) = 2 * (p * e) by rw [hpe], ← hpe]
  generalize N % p = r at *
  generalize N / p % 2 = b at *
  refine ⟨?_, ?_, ?_⟩
  · rw [Nat.mul_div_mul_right _ _ he, Nat.add_mul_div_left _ _ hp, Nat.div_eq_of_lt hr, Nat.zero_add]
  · rw [Nat.mul_mod_mul_left, Nat.mul_mod_mul_right, Nat.add_mul_mod_self_left, Nat.mod_eq_of_lt hr, ← Nat.mul_assoc, Nat.mul_comm 2 r, Nat.mul_assoc]
  · have : r + p * b < 2 * p := by
      have : p * b ≤ p * 1 := Nat.mul_le_mul_left _ (by omega)
      omega
    calc (r + p * b) * e < 2 * p * e := Nat.mul_lt_mul_of_pos_right this he
      _ = 2 * (p * e) := Nat.mul_assoc _ _ _
theorem tw_top {M : Int} (h0 : 0 ≤ M) (h1 : M < 340282366920938463463374607431768211456) : bits .or .u64 (IntKind.u64.wrap (hiW M * 2)) (loW M / 9223372036854775808) = hiW ((2 * M) % 340282366920938463463374607431768211456) := by
  have a0 : 0 ≤ hiW M := by unfold hiW; omega
  have a1 : hiW M < 18446744073709551616 := by unfold hiW; omega
  obtain ⟨c0, c1⟩ := lo_rng M
  rw [or_word a0 a1 (by omega) (by omega)]
  unfold hiW loW at *
  omega
theorem tw_toplo {M : Int} (h0 : 0 ≤ M) : IntKind.u64.wrap (loW M * 2) = loW ((2 * M) % 340282366920938463463374607431768211456) := by
  rw [IntKind.wrap_u64]
  unfold loW
  omega
/-- one step of the reference's division -/
structure RdStep (M M' R Q b R' Q' D : Int) : Prop where
  m0 : bits .or .u64 (IntKind.u64.wrap (hiW M * 2)) (loW M / 9223372036854775808) = hiW M'
  m1 : IntKind.u64.wrap (loW M * 2) = loW M'
  r0 : bits .or .u64 (IntKind.u64.wrap (hiW R * 2)) (loW R / 9223372036854775808) = hiW (2 * R + b)
  r1 : bits .or .u64 (IntKind.u64.wrap (loW R * 2)) (hiW M / 9223372036854775808) = loW (2 * R + b)
  q0 : bits .or .u64 (IntKind.u64.wrap (hiW Q * 2)) (loW Q / 9223372036854775808) = hiW (2 * Q)
  q1 : IntKind.u64.wrap (loW Q * 2) = loW (2 * Q)
  q2 : bits .or .u64 (loW (2 * Q)) 1 = loW (2 * Q + 1)
  q3 : hiW (2 * Q) = hiW (2 * Q + 1)
  go : (D ≤ 2 * R + b ∧ Q' = 2 * Q + 1 ∧ R' = 2 * R + b - D) ∨ (2 * R + b < D ∧ Q' = 2 * Q ∧ R' = 2 * R + b)
  rr : 0 ≤ 2 * R + b
  ru : 2 * R + b < 340282366920938463463374607431768211456
theorem rd_step {N D k : Nat} (hN : N < 340282366920938463463374607431768211456) (hD : 0 < D) (hD1 : D ≤ 170141183460469231731687303715884105728) (hk : k < 128) :
    RdStep (shM N (k + 1) : Nat) (shM N k : Nat) (rD N D (k + 1) : Nat) (qD N D (k + 1) : Nat) (bD N k : Nat) (rD N D k : Nat) (qD N D k : Nat) D := by
  obtain ⟨R, Q, b, R', Q', rfl, rfl, rfl, rfl, rfl, r0, r1, q0, q1, b0, b1, d0, d1, fin⟩ := ov_step (i := k) hN hD hD1
  obtain ⟨s1, s2, s3⟩ := sh_top (N := N) hk
  have e1 : ((shM N k : Nat) : Int) = (2 * ((shM N (k + 1) : Nat) : Int)) % 340282366920938463463374607431768211456 := by omega
  have e2 : hiW ((shM N (k + 1) : Nat) : Int) / 9223372036854775808 = (bD N k : Nat) := by unfold hiW; omega
  refine ⟨by rw [e1]; exact tw_top (by omega) (by omega), by rw [e1]; exact tw_toplo (by omega), tw_hi r0 r1 b0 b1, by rw [e2]; exact tw_lo r0 b0 b1, ?_, ?_, or1_u64 q0, hi_odd q0, fin, by omega, by omega⟩
  · have := tw_hi (b := 0) q0 q1 (by omega) (by omega)
    rwa [Int.add_zero] at this
  · rw [IntKind.wrap_u64]; unfold loW; omega
def RdR (N D : Nat) (w : World) (u0 u1 u8 u9 u10 u11 u12 : Value) (wr : World) : Prop := ∃ k : Nat, k ≤ 128 ∧ u0 = .int .u64 (hiW (shM N k : Nat)) ∧ u1 = .int .u64 (loW (shM N k : Nat)) ∧ u8 = .int .u64 (hiW (qD N D k : Nat)) ∧ u9 = .int .u64 (loW (qD N D k : Nat)) ∧
  u10 = .int .u64 (hiW (rD N D k : Nat)) ∧ u11 = .int .u64 (loW (rD N D k : Nat)) ∧ (∃ z : Int, u12 = .int .i64 z ∧ Hid (z = 128 - (k : Int))) ∧ w = wr
set_option maxHeartbeats 8000000 in
set_option maxRecDepth 100000 in
theorem rdivide_any (N D : Nat) (w : World) (hN : N < 340282366920938463463374607431768211456) (hD : 0 < D) (hD1 : D ≤ 170141183460469231731687303715884105728) :
    Calls Tryz.prog 142 #[.int .u64 (hiW (N : Int)), .int .u64 (loW (N : Int)), .int .u64 (hiW (D : Int)), .int .u64 (loW (D : Int))] w fun e w' => e = .returned (.tuple #[.int .u64 (hiW (N / D : Nat)), .int .u64 (loW (N / D : Nat)), .int .u64 (hiW (N % D : Nat)), .int .u64 (loW (N % D : Nat))]) ∧ w = w' := by
  obtain ⟨t0, t1⟩ := qr_top (D := D) hN
  obtain ⟨n0, n1⟩ := qr_end N D
  have HS := Lib.hid (sh_start hN)
  have ST := Lib.hid fun k hk => rd_step (k := k) hN hD hD1 hk
  have HE0 := Lib.hid n0
  have HE1 := Lib.hid n1
  clear n0 n1 hN hD hD1
  go_enter Tryz.func142, Tryz.ntmps142
  go_wp2
  go_loopw [0, 1, 8, 9, 10, 11, 12] (RdR N D w) (fun _ _ _ _ _ _ v _ => (128 - intOf v).toNat)
  case atStart => exact ⟨128, Nat.le_refl _, by rw [HS.out], by rw [HS.out], by rw [t0]; rfl, by rw [t0]; rfl, by rw [t1]; rfl, by rw [t1]; rfl, ⟨0, rfl, Lib.hid (by rfl)⟩, rfl⟩
  case round =>
    clear t0 t1
    obtain ⟨k, hk, rfl, rfl, rfl, rfl, rfl, rfl, ⟨z, rfl, HZ⟩, rfl⟩ := hrel
    cases k with
    | zero =>
      have g : decide (z < 128) = false := by have := HZ.out; simp; omega
      rw [HE0.out, HE1.out]
      go_wp2
      refine bodyPost_ret (v := .tuple #[.int .u64 (hiW (N / D : Nat)), .int .u64 (loW (N / D : Nat)), .int .u64 (hiW (N % D : Nat)), .int .u64 (loW (N % D : Nat))]) (by simp [results, Tryz.results142, go_sem]) rfl ⟨rfl, rfl⟩
    | succ k =>
      have hz : z = 127 - (k : Int) := by have := HZ.out; omega
      have g : decide (z < 128) = true := by simp; omega
      have z0 : 0 ≤ z := by omega
      have S := ST.out k (by omega)
      clear HZ ST HE0 HE1 HS
      generalize ((shM N (k + 1) : Nat) : Int) = M at *
      generalize ((rD N D (k + 1) : Nat) : Int) = R at *
      generalize ((qD N D (k + 1) : Nat) : Int) = Q at *
      generalize ((bD N k : Nat) : Int) = b at *
      obtain ⟨s0, s1, s2, s3, s4, s5, s6, s7, fin, s9, s10⟩ := S
      obtain ⟨M', hM⟩ : ∃ e, ((shM N k : Nat) : Int) = e := ⟨_, rfl⟩
      obtain ⟨R', hR⟩ : ∃ e, ((rD N D k : Nat) : Int) = e := ⟨_, rfl⟩
      obtain ⟨Q', hQ⟩ : ∃ e, ((qD N D k : Nat) : Int) = e := ⟨_, rfl⟩
      rw [hM] at s0 s1
      rw [hR, hQ] at fin
      have HM := Lib.hid hM
      have HR := Lib.hid hR
      have HQ := Lib.hid hQ
      clear hM hR hQ
      have dn : (0 : Int) ≤ (D : Int) := by omega
      generalize (D : Int) = d at *
      have S7 := Lib.hid s7
      clear s7
      have l0 := lo_rng (2 * R + b)
      have l1 := lo_rng d
      have hr0 : 0 ≤ hiW (2 * R + b) := by unfold hiW; omega
      have hd0 : 0 ≤ hiW d := by unfold hiW; omega
      rcases fin with ⟨f0, f1, f2⟩ | ⟨f0, f1, f2⟩
      · have R9 := Lib.hid f2
        have Q9 := Lib.hid f1
        have L : IntKind.u64.wrap (loW (2 * R + b) - loW d) = loW R' := by rw [f2, IntKind.wrap_u64]; unfold loW; omega
        rcases Int.lt_trichotomy (hiW (2 * R + b)) (hiW d) with c | c | c
        · exfalso; unfold hiW at c; omega
        · have g1 : decide (hiW d < hiW (2 * R + b)) = false := by simp; omega
          have g2 : (hiW (2 * R + b) == hiW d) = true := by simpa using c
          have g3 : decide (loW d ≤ loW (2 * R + b)) = true := by simp; unfold hiW loW at *; omega
          have g4 : decide (loW (2 * R + b) < loW d) = false := by simp; unfold hiW loW at *; omega
          have H : IntKind.u64.wrap (hiW (2 * R + b) - hiW d) = hiW R' := by rw [f2, IntKind.wrap_u64]; unfold hiW loW at *; omega
          clear f0 f1 f2 c l0 l1 s9 s10 hr0 hd0 dn
          generalize hiW (2 * R + b) = rh at *
          generalize loW (2 * R + b) = rl at *
          go_wp2
          exact ⟨⟨k, by omega, by rw [HM.out], by rw [HM.out], by rw [HQ.out, Q9.out, S7.out], by rw [HQ.out, Q9.out], by rw [HR.out], by rw [HR.out], ⟨_, rfl, Lib.hid (by omega)⟩, rfl⟩, by simp [intOf]; omega⟩
        · have g1 : decide (hiW d < hiW (2 * R + b)) = true := by simpa using c
          by_cases bo : loW (2 * R + b) < loW d
          · have g4 : decide (loW (2 * R + b) < loW d) = true := by simpa using bo
            have H : IntKind.u64.wrap (IntKind.u64.wrap (hiW (2 * R + b) - hiW d) - 1) = hiW R' := by rw [f2, IntKind.wrap_u64, IntKind.wrap_u64]; unfold hiW loW at *; omega
            clear f0 f1 f2 c bo l0 l1 s9 s10 hr0 hd0 dn
            generalize hiW (2 * R + b) = rh at *
            generalize loW (2 * R + b) = rl at *
            obtain ⟨x, hx⟩ : ∃ e, IntKind.u64.wrap (rh - hiW d) = e := ⟨_, rfl⟩
            rw [hx] at H
            go_wp2
            exact ⟨⟨k, by omega, by rw [HM.out], by rw [HM.out], by rw [HQ.out, Q9.out, S7.out], by rw [HQ.out, Q9.out], by rw [HR.out], by rw [HR.out], ⟨_, rfl, Lib.hid (by omega)⟩, rfl⟩, by simp [intOf]; omega⟩
          · have g4 : decide (loW (2 * R + b) < loW d) = false := by simpa using bo
            have H : IntKind.u64.wrap (hiW (2 * R + b) - hiW d) = hiW R' := by rw [f2, IntKind.wrap_u64]; unfold hiW loW at *; omega
            clear f0 f1 f2 c bo l0 l1 s9 s10 hr0 hd0 dn
            generalize hiW (2 * R + b) = rh at *
            generalize loW (2 * R + b) = rl at *
            go_wp2
            exact ⟨⟨k, by omega, by rw [HM.out], by rw [HM.out], by rw [HQ.out, Q9.out, S7.out], by rw [HQ.out, Q9.out], by rw [HR.out], by rw [HR.out], ⟨_, rfl, Lib.hid (by omega)⟩, rfl⟩, by simp [intOf]; omega⟩
      · have R9 := Lib.hid f2
        have Q9 := Lib.hid f1
        rcases Int.lt_trichotomy (hiW (2 * R + b)) (hiW d) with c | c | c
        · have g1 : decide (hiW d < hiW (2 * R + b)) = false := by simp; omega
          have g2 : (hiW (2 * R + b) == hiW d) = false := by simp; omega
          clear f0 f1 f2 c l0 l1 s9 s10 hr0 hd0 dn
          go_wp2
          exact ⟨⟨k, by omega, by rw [HM.out], by rw [HM.out], by rw [HQ.out, Q9.out], by rw [HQ.out, Q9.out], by rw [HR.out, R9.out], by rw [HR.out, R9.out], ⟨_, rfl, Lib.hid (by omega)⟩, rfl⟩, by simp [intOf]; omega⟩
        · have g1 : decide (hiW d < hiW (2 * R + b)) = false := by simp; omega
          have g2 : (hiW (2 * R + b) == hiW d) = true := by simpa using c
          have g3 : decide (loW d ≤ loW (2 * R + b)) = false := by simp; unfold hiW loW at *; omega
          clear f0 f1 f2 c l0 l1 s9 s10 hr0 hd0 dn
          go_wp2
          exact ⟨⟨k, by omega, by rw [HM.out], by rw [HM.out], by rw [HQ.out, Q9.out], by rw [HQ.out, Q9.out], by rw [HR.out, R9.out], by rw [HR.out, R9.out], ⟨_, rfl, Lib.hid (by omega)⟩, rfl⟩, by simp [intOf]; omega⟩
        · exfalso; unfold hiW at c; omega
end Go.Proofs.YtplgdlooglnpmaaGreat
namespace Go.Proofs.YtplgdlooglnpmaaGreat
set_option linter.unusedVariables false
open Go.RowKit
set_option maxHeartbeats 4000000 in
set_option maxRecDepth 100000 in
theorem rcmp_pos (d : Int) (w : World) (h0 : 0 < d) (h1 : d < 9223372036854775808) :
    Calls Tryz.prog 147 #[.agg #[.int .i64 0, .int .u64 d], .agg #[.int .i64 0, .int .u64 0]] w fun e w' => e = .returned (.int .i64 1) ∧ Below w.heap.size w w' := by
  have g1 : decide (d < 0) = false := by simp; omega
  have g2 : (d == 0) = false := by simp; omega
  have g3 : ¬ d = 0 := by omega
  go_enter Tryz.func147, Tryz.ntmps147
  go_wp2
  go_ret
  exact ⟨rfl, ((Below.refl _ _).alloc (Nat.le_refl _) _).alloc (by simp) _⟩
set_option maxHeartbeats 4000000 in
set_option maxRecDepth 100000 in
theorem rsign_pos (d : Int) (w : World) (h0 : 0 < d) (h1 : d < 9223372036854775808) :
    Calls Tryz.prog 140 #[.agg #[.int .i64 0, .int .u64 d]] w fun e w' => e = .returned (.int .i64 1) ∧ Below w.heap.size w w' := by
  have CM := Lib.hid fun w => rcmp_pos d w h0 h1
  clear h0 h1
  have KX := Lib.hid (Blk.of (vs := #[.int .i64 0, .int .u64 d]) (t := 49) (w := w) (b := w.heap.size) (by simp))
  have HB := Lib.hid ((Below.refl w.heap.size w).alloc (by simp; try omega) (.cells #[.int .i64 0, .int .u64 d] 49))
  go_enter Tryz.func140, Tryz.ntmps140
  go_wp2_with fail
  generalize w.alloc (.cells #[.int .i64 0, .int .u64 d] 49) = w0 at *
  refine (CM.out _).mono ?_
  rintro e1 w1 ⟨rfl, hb1⟩
  replace HB := Lib.hid (HB.out.trans (hb1.mono HB.out.size))
  replace KX := Lib.hid (KX.out.below hb1)
  clear hb1
  go_wp2
  go_ret
  exact ⟨rfl, HB.out⟩
/-- what the walk of quotient meets -/
structure QuoW (x d q r : Int) : Prop where
  sg : ∀ w, Calls Tryz.prog 140 #[.agg #[.int .i64 0, .int .u64 d]] w fun e w' => e = .returned (.int .i64 1) ∧ Below w.heap.size w w'
  sx : ∀ w, Calls Tryz.prog 141 #[.agg #[.int .i64 (hiW x), .int .u64 (loW x)]] w fun e w' => e = .returned (.tuple #[.int .u64 (hiW (absW x)), .int .u64 (loW (absW x))]) ∧ Below w.heap.size w w'
  sy : ∀ w, Calls Tryz.prog 141 #[.agg #[.int .i64 0, .int .u64 d]] w fun e w' => e = .returned (.tuple #[.int .u64 0, .int .u64 d]) ∧ Below w.heap.size w w'
  dv : ∀ w, Calls Tryz.prog 142 #[.int .u64 (hiW (absW x)), .int .u64 (loW (absW x)), .int .u64 0, .int .u64 d] w fun e w' => e = .returned (.tuple #[.int .u64 (hiW q), .int .u64 (loW q), .int .u64 0, .int .u64 r]) ∧ Below w.heap.size w w'
theorem small_words {d : Int} (h0 : 0 ≤ d) (h1 : d < 9223372036854775808) : hiW d = 0 ∧ loW d = d := by unfold hiW loW; omega
theorem quo_world {x d q r : Int} (hx0 : -85070591730234615865843651857942052864 < x) (hx : x < 85070591730234615865843651857942052864) (hd : 0 < d) (hd1 : d < 9223372036854775808) (hq : q = absW x / d) (hr : r = absW x % d) : QuoW x d q r := by
  have ax0 := absW_nonneg x
  have ax1 : absW x < 85070591730234615865843651857942052864 := by unfold absW; split <;> omega
  have ad : absW d = d := by unfold absW; rw [if_neg (by omega)]
  obtain ⟨w0, w1⟩ := small_words (d := d) (by omega) hd1
  have hr0 : 0 ≤ r := by rw [hr]; exact Int.emod_nonneg _ (by omega)
  have hr1 : r < d := by rw [hr]; exact Int.emod_lt_of_pos _ hd
  obtain ⟨v0, v1⟩ := small_words (d := r) hr0 (by omega)
  refine ⟨fun w => rsign_pos d w hd hd1, fun w => rsize_any x w ⟨by omega, by omega⟩, fun w => ?_, fun w => ?_⟩
  · have := rsize_any d w ⟨by omega, by omega⟩
    unfold wv at this
    rw [ad, w0, w1] at this
    exact this
  · obtain ⟨N, hN⟩ := Int.eq_ofNat_of_zero_le ax0
    obtain ⟨D, rfl⟩ := Int.eq_ofNat_of_zero_le (show 0 ≤ d by omega)
    have := rdivide_any N D w (by omega) (by omega) (by omega)
    rw [Int.natCast_ediv, Int.natCast_emod, ← hN, ← hq, ← hr, v0, v1, w0, w1] at this
    exact this.mono fun e w' ⟨a, b⟩ => ⟨a, by rw [← b]; exact Below.refl _ _⟩
end Go.Proofs.YtplgdlooglnpmaaGreat
namespace Go.Proofs.YtplgdlooglnpmaaGreat
set_option linter.unusedVariables false
open Go.RowKit
set_option maxHeartbeats 16000000 in
set_option maxRecDepth 100000 in
theorem quo_upP0lt (x d q r v : Int) (w : World) (h : QuoW x d q r) (hx : 0 ≤ x) (h0 : 0 ≤ q) (h1 : q < 85070591730234615865843651857942052864) (hr : r = 0) (hr0 : 0 ≤ r) (hr1 : r < d) (hd1 : d < 9223372036854775808) (hv : v = sgn false q) :
    Calls Tryz.prog 122 #[wv x, .agg #[.int .i64 0, .int .u64 d], .int .i64 1] w fun e w' => e = .returned (.tuple #[wv v, .bool true]) ∧ Below w.heap.size w w' := by
  have gx : decide (hiW x < 0) = false := by have := hi_neg x; simp; omega
  have gr : (r == 0) = true := by simpa using hr
  have gr' : (r != 0) = false := by simpa using hr
  have J := Lib.hid fun w => rsigned_any q false w (by omega) (by omega)
  rw [← hv] at J
  unfold wv at J ⊢
  clear hv
  clear h0 h1 hr0 hr1 hd1 hx hr
  have SG := Lib.hid h.sg
  have SX := Lib.hid h.sx
  have SY := Lib.hid h.sy
  have DV := Lib.hid h.dv
  clear h
  have KX := Lib.hid (((Blk.of (vs := #[.int .i64 (hiW x), .int .u64 (loW x)]) (t := 49) (w := w) (b := w.heap.size) (by simp)).alloc (.cells #[.int .i64 0, .int .u64 d] 49)).alloc (.cells #[.int .i64 0, .int .u64 0] 49))
  have KY := Lib.hid ((Blk.of (vs := #[.int .i64 0, .int .u64 d]) (t := 49) (w := (w.alloc (.cells #[.int .i64 (hiW x), .int .u64 (loW x)] 49))) (b := w.heap.size + 1) (by simp)).alloc (.cells #[.int .i64 0, .int .u64 0] 49))
  have KZ := Lib.hid (Blk.of (vs := #[.int .i64 0, .int .u64 0]) (t := 49) (w := ((w.alloc (.cells #[.int .i64 (hiW x), .int .u64 (loW x)] 49)).alloc (.cells #[.int .i64 0, .int .u64 d] 49))) (b := w.heap.size + 1 + 1) (by simp))
  have HB := Lib.hid ((((Below.refl w.heap.size w).alloc (by simp; try omega) (.cells #[.int .i64 (hiW x), .int .u64 (loW x)] 49)).alloc (by simp; try omega) (.cells #[.int .i64 0, .int .u64 d] 49)).alloc (by simp; try omega) (.cells #[.int .i64 0, .int .u64 0] 49))
  go_enter Tryz.func122, Tryz.ntmps122
  go_wp2_with fail
  generalize ((w.alloc (.cells #[.int .i64 (hiW x), .int .u64 (loW x)] 49)).alloc (.cells #[.int .i64 0, .int .u64 d] 49)).alloc (.cells #[.int .i64 0, .int .u64 0] 49) = w0 at *
  refine (SG.out _).mono ?_
  rintro e1 w1 ⟨rfl, hb1⟩
  replace HB := Lib.hid (HB.out.trans (hb1.mono HB.out.size))
  replace KX := Lib.hid (KX.out.below hb1)
  replace KY := Lib.hid (KY.out.below hb1)
  replace KZ := Lib.hid (KZ.out.below hb1)
  clear hb1
  have yX := KX.out
  have yX_0 := yX.c 0 _ rfl
  have yX_1 := yX.c 1 _ rfl
  have yX_z := yX.lt
  clear yX
  have yY := KY.out
  have yY_0 := yY.c 0 _ rfl
  have yY_1 := yY.c 1 _ rfl
  have yY_z := yY.lt
  clear yY
  go_wp2_with fail
  refine (SX.out _).mono ?_
  rintro e2 w2 ⟨rfl, hb2⟩
  replace HB := Lib.hid (HB.out.trans (hb2.mono HB.out.size))
  replace KX := Lib.hid (KX.out.below hb2)
  replace KY := Lib.hid (KY.out.below hb2)
  replace KZ := Lib.hid (KZ.out.below hb2)
  clear yX_0 yX_1 yX_z yY_0 yY_1 yY_z
  clear hb2
  have yY := KY.out
  have yY_0 := yY.c 0 _ rfl
  have yY_1 := yY.c 1 _ rfl
  have yY_z := yY.lt
  clear yY
  go_wp2_with fail
  refine (SY.out _).mono ?_
  rintro e3 w3 ⟨rfl, hb3⟩
  replace HB := Lib.hid (HB.out.trans (hb3.mono HB.out.size))
  replace KX := Lib.hid (KX.out.below hb3)
  replace KY := Lib.hid (KY.out.below hb3)
  replace KZ := Lib.hid (KZ.out.below hb3)
  clear yY_0 yY_1 yY_z
  clear hb3
  go_wp2_with fail
  refine (DV.out _).mono ?_
  rintro e4 w4 ⟨rfl, hb4⟩
  replace HB := Lib.hid (HB.out.trans (hb4.mono HB.out.size))
  replace KX := Lib.hid (KX.out.below hb4)
  replace KY := Lib.hid (KY.out.below hb4)
  replace KZ := Lib.hid (KZ.out.below hb4)
  clear hb4
  go_wp2_with fail
  refine (J.out _).mono ?_
  rintro e5 w5 ⟨rfl, hb5⟩
  replace HB := Lib.hid (HB.out.trans (hb5.mono HB.out.size))
  replace KX := Lib.hid (KX.out.below hb5)
  replace KY := Lib.hid (KY.out.below hb5)
  replace KZ := Lib.hid (KZ.out.below hb5)
  clear hb5
  have yZ := KZ.out
  have yZ_0 := yZ.c 0 _ rfl
  have yZ_1 := yZ.c 1 _ rfl
  have yZ_z := yZ.lt
  have yZ_f0 := yZ.f 0 _ rfl
  have yZ_f1 := yZ.f 1 _ rfl
  clear yZ
  go_wp2
  replace KX := Lib.hid (blk_other (b := w.heap.size) (n := (w.heap.size + 1 + 1)) (j := 1) (blk_other (b := w.heap.size) (n := (w.heap.size + 1 + 1)) (j := 0) KX.out (by omega) (.int .i64 (hiW v))) (by omega) (.int .u64 (loW v)))
  replace KY := Lib.hid (blk_other (b := (w.heap.size + 1)) (n := (w.heap.size + 1 + 1)) (j := 1) (blk_other (b := (w.heap.size + 1)) (n := (w.heap.size + 1 + 1)) (j := 0) KY.out (by omega) (.int .i64 (hiW v))) (by omega) (.int .u64 (loW v)))
  replace KZ := Lib.hid (blk_set (blk_set KZ.out (j := 0) (by simp) (.int .i64 (hiW v))) (j := 1) (by simp) (.int .u64 (loW v)))
  replace HB := Lib.hid ((HB.out.setCell (p := ⟨(w.heap.size + 1 + 1), 0, none⟩) (show w.heap.size ≤ (w.heap.size + 1 + 1) by omega) (.int .i64 (hiW v))).setCell (p := ⟨(w.heap.size + 1 + 1), 1, none⟩) (show w.heap.size ≤ (w.heap.size + 1 + 1) by omega) (.int .u64 (loW v)))
  clear yZ_0 yZ_1 yZ_z yZ_f0 yZ_f1
  generalize (w5.setCell ⟨(w.heap.size + 1 + 1), 0, none⟩ (.int .i64 (hiW v))).setCell ⟨(w.heap.size + 1 + 1), 1, none⟩ (.int .u64 (loW v)) = w6 at *
  simp only [List.set] at KZ
  have yZ := KZ.out
  have yZ_0 := yZ.c 0 _ rfl
  have yZ_1 := yZ.c 1 _ rfl
  have yZ_z := yZ.lt
  clear yZ
  refine bodyPost_ret (v := .tuple #[.agg #[.int .i64 (hiW v), .int .u64 (loW v)], .bool true]) (by simp [results, Tryz.results122, go_sem, yZ_0, yZ_1]) rfl ⟨rfl, HB.out⟩
set_option maxHeartbeats 16000000 in
set_option maxRecDepth 100000 in
theorem quo_upP1lt (x d q r v : Int) (w : World) (h : QuoW x d q r) (hx : 0 ≤ x) (h0 : 0 ≤ q) (h1 : q < 85070591730234615865843651857942052864) (hr : ¬ r = 0) (hr0 : 0 ≤ r) (hr1 : r < d) (hd1 : d < 9223372036854775808) (hv : v = sgn false (q + 1)) :
    Calls Tryz.prog 122 #[wv x, .agg #[.int .i64 0, .int .u64 d], .int .i64 1] w fun e w' => e = .returned (.tuple #[wv v, .bool true]) ∧ Below w.heap.size w w' := by
  by_cases hcy : loW (q + 1) = 0
  · have gx : decide (hiW x < 0) = false := by have := hi_neg x; simp; omega
    have gr : (r == 0) = false := by simpa using hr
    have gr' : (r != 0) = true := by simpa using hr
    have qs : IntKind.u64.wrap (loW q + 1) = loW (q + 1) := by rw [IntKind.wrap_u64]; unfold loW; omega
    have qc : (loW (q + 1) == 0) = true := by simpa using hcy
    have qh : IntKind.u64.wrap (hiW q + 1) = hiW (q + 1) := by rw [IntKind.wrap_u64]; unfold hiW loW at *; omega
    have J := Lib.hid fun w => rsigned_any (q + 1) false w (by omega) (by omega)
    rw [← hv] at J
    unfold wv at J ⊢
    clear hv
    generalize loW (q + 1) = ql at *
    clear h0 h1 hr0 hr1 hd1 hx hr hcy
    have SG := Lib.hid h.sg
    have SX := Lib.hid h.sx
    have SY := Lib.hid h.sy
    have DV := Lib.hid h.dv
    clear h
    have KX := Lib.hid (((Blk.of (vs := #[.int .i64 (hiW x), .int .u64 (loW x)]) (t := 49) (w := w) (b := w.heap.size) (by simp)).alloc (.cells #[.int .i64 0, .int .u64 d] 49)).alloc (.cells #[.int .i64 0, .int .u64 0] 49))
    have KY := Lib.hid ((Blk.of (vs := #[.int .i64 0, .int .u64 d]) (t := 49) (w := (w.alloc (.cells #[.int .i64 (hiW x), .int .u64 (loW x)] 49))) (b := w.heap.size + 1) (by simp)).alloc (.cells #[.int .i64 0, .int .u64 0] 49))
    have KZ := Lib.hid (Blk.of (vs := #[.int .i64 0, .int .u64 0]) (t := 49) (w := ((w.alloc (.cells #[.int .i64 (hiW x), .int .u64 (loW x)] 49)).alloc (.cells #[.int .i64 0, .int .u64 d] 49))) (b := w.heap.size + 1 + 1) (by simp))
    have HB := Lib.hid ((((Below.refl w.heap.size w).alloc (by simp; try omega) (.cells #[.int .i64 (hiW x), .int .u64 (loW x)] 49)).alloc (by simp; try omega) (.cells #[.int .i64 0, .int .u64 d] 49)).alloc (by simp; try omega) (.cells #[.int .i64 0, .int .u64 0] 49))
    go_enter Tryz.func122, Tryz.ntmps122
    go_wp2_with fail
    generalize ((w.alloc (.cells #[.int .i64 (hiW x), .int .u64 (loW x)] 49)).alloc (.cells #[.int .i64 0, .int .u64 d] 49)).alloc (.cells #[.int .i64 0, .int .u64 0] 49) = w0 at *
    refine (SG.out _).mono ?_
    rintro e1 w1 ⟨rfl, hb1⟩
    replace HB := Lib.hid (HB.out.trans (hb1.mono HB.out.size))
    replace KX := Lib.hid (KX.out.below hb1)
    replace KY := Lib.hid (KY.out.below hb1)
    replace KZ := Lib.hid (KZ.out.below hb1)
    clear hb1
    have yX := KX.out
    have yX_0 := yX.c 0 _ rfl
    have yX_1 := yX.c 1 _ rfl
    have yX_z := yX.lt
    clear yX
    have yY := KY.out
    have yY_0 := yY.c 0 _ rfl
    have yY_1 := yY.c 1 _ rfl
    have yY_z := yY.lt
    clear yY
    go_wp2_with fail
    refine (SX.out _).mono ?_
    rintro e2 w2 ⟨rfl, hb2⟩
    replace HB := Lib.hid (HB.out.trans (hb2.mono HB.out.size))
    replace KX := Lib.hid (KX.out.below hb2)
    replace KY := Lib.hid (KY.out.below hb2)
    replace KZ := Lib.hid (KZ.out.below hb2)
    clear yX_0 yX_1 yX_z yY_0 yY_1 yY_z
    clear hb2
    have yY := KY.out
    have yY_0 := yY.c 0 _ rfl
    have yY_1 := yY.c 1 _ rfl
    have yY_z := yY.lt
    clear yY
    go_wp2_with fail
    refine (SY.out _).mono ?_
    rintro e3 w3 ⟨rfl, hb3⟩
    replace HB := Lib.hid (HB.out.trans (hb3.mono HB.out.size))
    replace KX := Lib.hid (KX.out.below hb3)
    replace KY := Lib.hid (KY.out.below hb3)
    replace KZ := Lib.hid (KZ.out.below hb3)
    clear yY_0 yY_1 yY_z
    clear hb3
    go_wp2_with fail
    refine (DV.out _).mono ?_
    rintro e4 w4 ⟨rfl, hb4⟩
    replace HB := Lib.hid (HB.out.trans (hb4.mono HB.out.size))
    replace KX := Lib.hid (KX.out.below hb4)
    replace KY := Lib.hid (KY.out.below hb4)
    replace KZ := Lib.hid (KZ.out.below hb4)
    clear hb4
    go_wp2_with fail
    refine (J.out _).mono ?_
    rintro e5 w5 ⟨rfl, hb5⟩
    replace HB := Lib.hid (HB.out.trans (hb5.mono HB.out.size))
    replace KX := Lib.hid (KX.out.below hb5)
    replace KY := Lib.hid (KY.out.below hb5)
    replace KZ := Lib.hid (KZ.out.below hb5)
    clear hb5
    have yZ := KZ.out
    have yZ_0 := yZ.c 0 _ rfl
    have yZ_1 := yZ.c 1 _ rfl
    have yZ_z := yZ.lt
    have yZ_f0 := yZ.f 0 _ rfl
    have yZ_f1 := yZ.f 1 _ rfl
    clear yZ
    go_wp2
    replace KX := Lib.hid (blk_other (b := w.heap.size) (n := (w.heap.size + 1 + 1)) (j := 1) (blk_other (b := w.heap.size) (n := (w.heap.size + 1 + 1)) (j := 0) KX.out (by omega) (.int .i64 (hiW v))) (by omega) (.int .u64 (loW v)))
    replace KY := Lib.hid (blk_other (b := (w.heap.size + 1)) (n := (w.heap.size + 1 + 1)) (j := 1) (blk_other (b := (w.heap.size + 1)) (n := (w.heap.size + 1 + 1)) (j := 0) KY.out (by omega) (.int .i64 (hiW v))) (by omega) (.int .u64 (loW v)))
    replace KZ := Lib.hid (blk_set (blk_set KZ.out (j := 0) (by simp) (.int .i64 (hiW v))) (j := 1) (by simp) (.int .u64 (loW v)))
    replace HB := Lib.hid ((HB.out.setCell (p := ⟨(w.heap.size + 1 + 1), 0, none⟩) (show w.heap.size ≤ (w.heap.size + 1 + 1) by omega) (.int .i64 (hiW v))).setCell (p := ⟨(w.heap.size + 1 + 1), 1, none⟩) (show w.heap.size ≤ (w.heap.size + 1 + 1) by omega) (.int .u64 (loW v)))
    clear yZ_0 yZ_1 yZ_z yZ_f0 yZ_f1
    generalize (w5.setCell ⟨(w.heap.size + 1 + 1), 0, none⟩ (.int .i64 (hiW v))).setCell ⟨(w.heap.size + 1 + 1), 1, none⟩ (.int .u64 (loW v)) = w6 at *
    simp only [List.set] at KZ
    have yZ := KZ.out
    have yZ_0 := yZ.c 0 _ rfl
    have yZ_1 := yZ.c 1 _ rfl
    have yZ_z := yZ.lt
    clear yZ
    refine bodyPost_ret (v := .tuple #[.agg #[.int .i64 (hiW v), .int .u64 (loW v)], .bool true]) (by simp [results, Tryz.results122, go_sem, yZ_0, yZ_1]) rfl ⟨rfl, HB.out⟩
  · have gx : decide (hiW x < 0) = false := by have := hi_neg x; simp; omega
    have gr : (r == 0) = false := by simpa using hr
    have gr' : (r != 0) = true := by simpa using hr
    have qs : IntKind.u64.wrap (loW q + 1) = loW (q + 1) := by rw [IntKind.wrap_u64]; unfold loW; omega
    have qc : (loW (q + 1) == 0) = false := by simpa using hcy
    have qh : hiW q = hiW (q + 1) := by unfold hiW loW at *; omega
    have J := Lib.hid fun w => rsigned_any (q + 1) false w (by omega) (by omega)
    rw [← hv] at J
    unfold wv at J ⊢
    clear hv
    rw [← qh] at J
    clear qh
    generalize loW (q + 1) = ql at *
    clear h0 h1 hr0 hr1 hd1 hx hr hcy
    have SG := Lib.hid h.sg
    have SX := Lib.hid h.sx
    have SY := Lib.hid h.sy
    have DV := Lib.hid h.dv
    clear h
    have KX := Lib.hid (((Blk.of (vs := #[.int .i64 (hiW x), .int .u64 (loW x)]) (t := 49) (w := w) (b := w.heap.size) (by simp)).alloc (.cells #[.int .i64 0, .int .u64 d] 49)).alloc (.cells #[.int .i64 0, .int .u64 0] 49))
    have KY := Lib.hid ((Blk.of (vs := #[.int .i64 0, .int .u64 d]) (t := 49) (w := (w.alloc (.cells #[.int .i64 (hiW x), .int .u64 (loW x)] 49))) (b := w.heap.size + 1) (by simp)).alloc (.cells #[.int .i64 0, .int .u64 0] 49))
    have KZ := Lib.hid (Blk.of (vs := #[.int .i64 0, .int .u64 0]) (t := 49) (w := ((w.alloc (.cells #[.int .i64 (hiW x), .int .u64 (loW x)] 49)).alloc (.cells #[.int .i64 0, .int .u64 d] 49))) (b := w.heap.size + 1 + 1) (by simp))
    have HB := Lib.hid ((((Below.refl w.heap.size w).alloc (by simp; try omega) (.cells #[.int .i64 (hiW x), .int .u64 (loW x)] 49)).alloc (by simp; try omega) (.cells #[.int .i64 0, .int .u64 d] 49)).alloc (by simp; try omega) (.cells #[.int .i64 0, .int .u64 0] 49))
    go_enter Tryz.func122, Tryz.ntmps122
    go_wp2_with fail
    generalize ((w.alloc (.cells #[.int .i64 (hiW x), .int .u64 (loW x)] 49)).alloc (.cells #[.int .i64 0, .int .u64 d] 49)).alloc (.cells #[.int .i64 0, .int .u64 0] 49) = w0 at *
    refine (SG.out _).mono ?_
    rintro e1 w1 ⟨rfl, hb1⟩
    replace HB := Lib.hid (HB.out.trans (hb1.mono HB.out.size))
    replace KX := Lib.hid (KX.out.below hb1)
    replace KY := Lib.hid (KY.out.below hb1)
    replace KZ := Lib.hid (KZ.out.below hb1)
    clear hb1
    have yX := KX.out
    have yX_0 := yX.c 0 _ rfl
    have yX_1 := yX.c 1 _ rfl
    have yX_z := yX.lt
    clear yX
    have yY := KY.out
    have yY_0 := yY.c 0 _ rfl
    have yY_1 := yY.c 1 _ rfl
    have yY_z := yY.lt
    clear yY
    go_wp2_with fail
    refine (SX.out _).mono ?_
    rintro e2 w2 ⟨rfl, hb2⟩
    replace HB := Lib.hid (HB.out.trans (hb2.mono HB.out.size))
    replace KX := Lib.hid (KX.out.below hb2)
    replace KY := Lib.hid (KY.out.below hb2)
    replace KZ := Lib.hid (KZ.out.below hb2)
    clear yX_0 yX_1 yX_z yY_0 yY_1 yY_z
    clear hb2
    have yY := KY.out
    have yY_0 := yY.c 0 _ rfl
    have yY_1 := yY.c 1 _ rfl
    have yY_z := yY.lt
    clear yY
    go_wp2_with fail
    refine (SY.out _).mono ?_
    rintro e3 w3 ⟨rfl, hb3⟩
    replace HB := Lib.hid (HB.out.trans (hb3.mono HB.out.size))
    replace KX := Lib.hid (KX.out.below hb3)
    replace KY := Lib.hid (KY.out.below hb3)
    replace KZ := Lib.hid (KZ.out.below hb3)
    clear yY_0 yY_1 yY_z
    clear hb3
    go_wp2_with fail
    refine (DV.out _).mono ?_
    rintro e4 w4 ⟨rfl, hb4⟩
    replace HB := Lib.hid (HB.out.trans (hb4.mono HB.out.size))
    replace KX := Lib.hid (KX.out.below hb4)
    replace KY := Lib.hid (KY.out.below hb4)
    replace KZ := Lib.hid (KZ.out.below hb4)
    clear hb4
    go_wp2_with fail
    refine (J.out _).mono ?_
    rintro e5 w5 ⟨rfl, hb5⟩
    replace HB := Lib.hid (HB.out.trans (hb5.mono HB.out.size))
    replace KX := Lib.hid (KX.out.below hb5)
    replace KY := Lib.hid (KY.out.below hb5)
    replace KZ := Lib.hid (KZ.out.below hb5)
    clear hb5
    have yZ := KZ.out
    have yZ_0 := yZ.c 0 _ rfl
    have yZ_1 := yZ.c 1 _ rfl
    have yZ_z := yZ.lt
    have yZ_f0 := yZ.f 0 _ rfl
    have yZ_f1 := yZ.f 1 _ rfl
    clear yZ
    go_wp2
    replace KX := Lib.hid (blk_other (b := w.heap.size) (n := (w.heap.size + 1 + 1)) (j := 1) (blk_other (b := w.heap.size) (n := (w.heap.size + 1 + 1)) (j := 0) KX.out (by omega) (.int .i64 (hiW v))) (by omega) (.int .u64 (loW v)))
    replace KY := Lib.hid (blk_other (b := (w.heap.size + 1)) (n := (w.heap.size + 1 + 1)) (j := 1) (blk_other (b := (w.heap.size + 1)) (n := (w.heap.size + 1 + 1)) (j := 0) KY.out (by omega) (.int .i64 (hiW v))) (by omega) (.int .u64 (loW v)))
    replace KZ := Lib.hid (blk_set (blk_set KZ.out (j := 0) (by simp) (.int .i64 (hiW v))) (j := 1) (by simp) (.int .u64 (loW v)))
    replace HB := Lib.hid ((HB.out.setCell (p := ⟨(w.heap.size + 1 + 1), 0, none⟩) (show w.heap.size ≤ (w.heap.size + 1 + 1) by omega) (.int .i64 (hiW v))).setCell (p := ⟨(w.heap.size + 1 + 1), 1, none⟩) (show w.heap.size ≤ (w.heap.size + 1 + 1) by omega) (.int .u64 (loW v)))
    clear yZ_0 yZ_1 yZ_z yZ_f0 yZ_f1
    generalize (w5.setCell ⟨(w.heap.size + 1 + 1), 0, none⟩ (.int .i64 (hiW v))).setCell ⟨(w.heap.size + 1 + 1), 1, none⟩ (.int .u64 (loW v)) = w6 at *
    simp only [List.set] at KZ
    have yZ := KZ.out
    have yZ_0 := yZ.c 0 _ rfl
    have yZ_1 := yZ.c 1 _ rfl
    have yZ_z := yZ.lt
    clear yZ
    refine bodyPost_ret (v := .tuple #[.agg #[.int .i64 (hiW v), .int .u64 (loW v)], .bool true]) (by simp [results, Tryz.results122, go_sem, yZ_0, yZ_1]) rfl ⟨rfl, HB.out⟩
set_option maxHeartbeats 16000000 in
set_option maxRecDepth 100000 in
theorem quo_nearP0lt (x d q r v : Int) (w : World) (h : QuoW x d q r) (hx : 0 ≤ x) (h0 : 0 ≤ q) (h1 : q < 85070591730234615865843651857942052864) (hr : r = 0) (hr0 : 0 ≤ r) (hr1 : r < d) (hd1 : d < 9223372036854775808) (hc : r < d - r) (hv : v = sgn false q) :
    Calls Tryz.prog 122 #[wv x, .agg #[.int .i64 0, .int .u64 d], .int .i64 2] w fun e w' => e = .returned (.tuple #[wv v, .bool true]) ∧ Below w.heap.size w w' := by
  have gx : decide (hiW x < 0) = false := by have := hi_neg x; simp; omega
  have gr : (r == 0) = true := by simpa using hr
  have gr' : (r != 0) = false := by simpa using hr
  have gd : decide (d < r) = false := by simp; omega
  have gs : IntKind.u64.wrap (d - r) = d - r := by rw [IntKind.wrap_u64]; omega
  have gc : decide (d - r < r) = false := by simp; omega
  have ge : (r == d - r) = false := by simp; omega
  have ge' : (d - r == r) = false := by simp; omega
  have J := Lib.hid fun w => rsigned_any q false w (by omega) (by omega)
  rw [← hv] at J
  unfold wv at J ⊢
  clear hv
  clear h0 h1 hr0 hr1 hd1 hx hr hc
  have SG := Lib.hid h.sg
  have SX := Lib.hid h.sx
  have SY := Lib.hid h.sy
  have DV := Lib.hid h.dv
  clear h
  have KX := Lib.hid (((Blk.of (vs := #[.int .i64 (hiW x), .int .u64 (loW x)]) (t := 49) (w := w) (b := w.heap.size) (by simp)).alloc (.cells #[.int .i64 0, .int .u64 d] 49)).alloc (.cells #[.int .i64 0, .int .u64 0] 49))
  have KY := Lib.hid ((Blk.of (vs := #[.int .i64 0, .int .u64 d]) (t := 49) (w := (w.alloc (.cells #[.int .i64 (hiW x), .int .u64 (loW x)] 49))) (b := w.heap.size + 1) (by simp)).alloc (.cells #[.int .i64 0, .int .u64 0] 49))
  have KZ := Lib.hid (Blk.of (vs := #[.int .i64 0, .int .u64 0]) (t := 49) (w := ((w.alloc (.cells #[.int .i64 (hiW x), .int .u64 (loW x)] 49)).alloc (.cells #[.int .i64 0, .int .u64 d] 49))) (b := w.heap.size + 1 + 1) (by simp))
  have HB := Lib.hid ((((Below.refl w.heap.size w).alloc (by simp; try omega) (.cells #[.int .i64 (hiW x), .int .u64 (loW x)] 49)).alloc (by simp; try omega) (.cells #[.int .i64 0, .int .u64 d] 49)).alloc (by simp; try omega) (.cells #[.int .i64 0, .int .u64 0] 49))
  go_enter Tryz.func122, Tryz.ntmps122
  go_wp2_with fail
  generalize ((w.alloc (.cells #[.int .i64 (hiW x), .int .u64 (loW x)] 49)).alloc (.cells #[.int .i64 0, .int .u64 d] 49)).alloc (.cells #[.int .i64 0, .int .u64 0] 49) = w0 at *
  refine (SG.out _).mono ?_
  rintro e1 w1 ⟨rfl, hb1⟩
  replace HB := Lib.hid (HB.out.trans (hb1.mono HB.out.size))
  replace KX := Lib.hid (KX.out.below hb1)
  replace KY := Lib.hid (KY.out.below hb1)
  replace KZ := Lib.hid (KZ.out.below hb1)
  clear hb1
  have yX := KX.out
  have yX_0 := yX.c 0 _ rfl
  have yX_1 := yX.c 1 _ rfl
  have yX_z := yX.lt
  clear yX
  have yY := KY.out
  have yY_0 := yY.c 0 _ rfl
  have yY_1 := yY.c 1 _ rfl
  have yY_z := yY.lt
  clear yY
  go_wp2_with fail
  refine (SX.out _).mono ?_
  rintro e2 w2 ⟨rfl, hb2⟩
  replace HB := Lib.hid (HB.out.trans (hb2.mono HB.out.size))
  replace KX := Lib.hid (KX.out.below hb2)
  replace KY := Lib.hid (KY.out.below hb2)
  replace KZ := Lib.hid (KZ.out.below hb2)
  clear yX_0 yX_1 yX_z yY_0 yY_1 yY_z
  clear hb2
  have yY := KY.out
  have yY_0 := yY.c 0 _ rfl
  have yY_1 := yY.c 1 _ rfl
  have yY_z := yY.lt
  clear yY
  go_wp2_with fail
  refine (SY.out _).mono ?_
  rintro e3 w3 ⟨rfl, hb3⟩
  replace HB := Lib.hid (HB.out.trans (hb3.mono HB.out.size))
  replace KX := Lib.hid (KX.out.below hb3)
  replace KY := Lib.hid (KY.out.below hb3)
  replace KZ := Lib.hid (KZ.out.below hb3)
  clear yY_0 yY_1 yY_z
  clear hb3
  go_wp2_with fail
  refine (DV.out _).mono ?_
  rintro e4 w4 ⟨rfl, hb4⟩
  replace HB := Lib.hid (HB.out.trans (hb4.mono HB.out.size))
  replace KX := Lib.hid (KX.out.below hb4)
  replace KY := Lib.hid (KY.out.below hb4)
  replace KZ := Lib.hid (KZ.out.below hb4)
  clear hb4
  go_wp2_with fail
  refine (J.out _).mono ?_
  rintro e5 w5 ⟨rfl, hb5⟩
  replace HB := Lib.hid (HB.out.trans (hb5.mono HB.out.size))
  replace KX := Lib.hid (KX.out.below hb5)
  replace KY := Lib.hid (KY.out.below hb5)
  replace KZ := Lib.hid (KZ.out.below hb5)
  clear hb5
  have yZ := KZ.out
  have yZ_0 := yZ.c 0 _ rfl
  have yZ_1 := yZ.c 1 _ rfl
  have yZ_z := yZ.lt
  have yZ_f0 := yZ.f 0 _ rfl
  have yZ_f1 := yZ.f 1 _ rfl
  clear yZ
  go_wp2
  replace KX := Lib.hid (blk_other (b := w.heap.size) (n := (w.heap.size + 1 + 1)) (j := 1) (blk_other (b := w.heap.size) (n := (w.heap.size + 1 + 1)) (j := 0) KX.out (by omega) (.int .i64 (hiW v))) (by omega) (.int .u64 (loW v)))
  replace KY := Lib.hid (blk_other (b := (w.heap.size + 1)) (n := (w.heap.size + 1 + 1)) (j := 1) (blk_other (b := (w.heap.size + 1)) (n := (w.heap.size + 1 + 1)) (j := 0) KY.out (by omega) (.int .i64 (hiW v))) (by omega) (.int .u64 (loW v)))
  replace KZ := Lib.hid (blk_set (blk_set KZ.out (j := 0) (by simp) (.int .i64 (hiW v))) (j := 1) (by simp) (.int .u64 (loW v)))
  replace HB := Lib.hid ((HB.out.setCell (p := ⟨(w.heap.size + 1 + 1), 0, none⟩) (show w.heap.size ≤ (w.heap.size + 1 + 1) by omega) (.int .i64 (hiW v))).setCell (p := ⟨(w.heap.size + 1 + 1), 1, none⟩) (show w.heap.size ≤ (w.heap.size + 1 + 1) by omega) (.int .u64 (loW v)))
  clear yZ_0 yZ_1 yZ_z yZ_f0 yZ_f1
  generalize (w5.setCell ⟨(w.heap.size + 1 + 1), 0, none⟩ (.int .i64 (hiW v))).setCell ⟨(w.heap.size + 1 + 1), 1, none⟩ (.int .u64 (loW v)) = w6 at *
  simp only [List.set] at KZ
  have yZ := KZ.out
  have yZ_0 := yZ.c 0 _ rfl
  have yZ_1 := yZ.c 1 _ rfl
  have yZ_z := yZ.lt
  clear yZ
  refine bodyPost_ret (v := .tuple #[.agg #[.int .i64 (hiW v), .int .u64 (loW v)], .bool true]) (by simp [results, Tryz.results122, go_sem, yZ_0, yZ_1]) rfl ⟨rfl, HB.out⟩
set_option maxHeartbeats 16000000 in
set_option maxRecDepth 100000 in
theorem quo_nearP1lt (x d q r v : Int) (w : World) (h : QuoW x d q r) (hx : 0 ≤ x) (h0 : 0 ≤ q) (h1 : q < 85070591730234615865843651857942052864) (hr : ¬ r = 0) (hr0 : 0 ≤ r) (hr1 : r < d) (hd1 : d < 9223372036854775808) (hc : r < d - r) (hv : v = sgn false q) :
    Calls Tryz.prog 122 #[wv x, .agg #[.int .i64 0, .int .u64 d], .int .i64 2] w fun e w' => e = .returned (.tuple #[wv v, .bool true]) ∧ Below w.heap.size w w' := by
  have gx : decide (hiW x < 0) = false := by have := hi_neg x; simp; omega
  have gr : (r == 0) = false := by simpa using hr
  have gr' : (r != 0) = true := by simpa using hr
  have gd : decide (d < r) = false := by simp; omega
  have gs : IntKind.u64.wrap (d - r) = d - r := by rw [IntKind.wrap_u64]; omega
  have gc : decide (d - r < r) = false := by simp; omega
  have ge : (r == d - r) = false := by simp; omega
  have ge' : (d - r == r) = false := by simp; omega
  have J := Lib.hid fun w => rsigned_any q false w (by omega) (by omega)
  rw [← hv] at J
  unfold wv at J ⊢
  clear hv
  clear h0 h1 hr0 hr1 hd1 hx hr hc
  have SG := Lib.hid h.sg
  have SX := Lib.hid h.sx
  have SY := Lib.hid h.sy
  have DV := Lib.hid h.dv
  clear h
  have KX := Lib.hid (((Blk.of (vs := #[.int .i64 (hiW x), .int .u64 (loW x)]) (t := 49) (w := w) (b := w.heap.size) (by simp)).alloc (.cells #[.int .i64 0, .int .u64 d] 49)).alloc (.cells #[.int .i64 0, .int .u64 0] 49))
  have KY := Lib.hid ((Blk.of (vs := #[.int .i64 0, .int .u64 d]) (t := 49) (w := (w.alloc (.cells #[.int .i64 (hiW x), .int .u64 (loW x)] 49))) (b := w.heap.size + 1) (by simp)).alloc (.cells #[.int .i64 0, .int .u64 0] 49))
  have KZ := Lib.hid (Blk.of (vs := #[.int .i64 0, .int .u64 0]) (t := 49) (w := ((w.alloc (.cells #[.int .i64 (hiW x), .int .u64 (loW x)] 49)).alloc (.cells #[.int .i64 0, .int .u64 d] 49))) (b := w.heap.size + 1 + 1) (by simp))
  have HB := Lib.hid ((((Below.refl w.heap.size w).alloc (by simp; try omega) (.cells #[.int .i64 (hiW x), .int .u64 (loW x)] 49)).alloc (by simp; try omega) (.cells #[.int .i64 0, .int .u64 d] 49)).alloc (by simp; try omega) (.cells #[.int .i64 0, .int .u64 0] 49))
  go_enter Tryz.func122, Tryz.ntmps122
  go_wp2_with fail
  generalize ((w.alloc (.cells #[.int .i64 (hiW x), .int .u64 (loW x)] 49)).alloc (.cells #[.int .i64 0, .int .u64 d] 49)).alloc (.cells #[.int .i64 0, .int .u64 0] 49) = w0 at *
  refine (SG.out _).mono ?_
  rintro e1 w1 ⟨rfl, hb1⟩
  replace HB := Lib.hid (HB.out.trans (hb1.mono HB.out.size))
  replace KX := Lib.hid (KX.out.below hb1)
  replace KY := Lib.hid (KY.out.below hb1)
  replace KZ := Lib.hid (KZ.out.below hb1)
  clear hb1
  have yX := KX.out
  have yX_0 := yX.c 0 _ rfl
  have yX_1 := yX.c 1 _ rfl
  have yX_z := yX.lt
  clear yX
  have yY := KY.out
  have yY_0 := yY.c 0 _ rfl
  have yY_1 := yY.c 1 _ rfl
  have yY_z := yY.lt
  clear yY
  go_wp2_with fail
  refine (SX.out _).mono ?_
  rintro e2 w2 ⟨rfl, hb2⟩
  replace HB := Lib.hid (HB.out.trans (hb2.mono HB.out.size))
  replace KX := Lib.hid (KX.out.below hb2)
  replace KY := Lib.hid (KY.out.below hb2)
  replace KZ := Lib.hid (KZ.out.below hb2)
  clear yX_0 yX_1 yX_z yY_0 yY_1 yY_z
  clear hb2
  have yY := KY.out
  have yY_0 := yY.c 0 _ rfl
  have yY_1 := yY.c 1 _ rfl
  have yY_z := yY.lt
  clear yY
  go_wp2_with fail
  refine (SY.out _).mono ?_
  rintro e3 w3 ⟨rfl, hb3⟩
  replace HB := Lib.hid (HB.out.trans (hb3.mono HB.out.size))
  replace KX := Lib.hid (KX.out.below hb3)
  replace KY := Lib.hid (KY.out.below hb3)
  replace KZ := Lib.hid (KZ.out.below hb3)
  clear yY_0 yY_1 yY_z
  clear hb3
  go_wp2_with fail
  refine (DV.out _).mono ?_
  rintro e4 w4 ⟨rfl, hb4⟩
  replace HB := Lib.hid (HB.out.trans (hb4.mono HB.out.size))
  replace KX := Lib.hid (KX.out.below hb4)
  replace KY := Lib.hid (KY.out.below hb4)
  replace KZ := Lib.hid (KZ.out.below hb4)
  clear hb4
  go_wp2_with fail
  refine (J.out _).mono ?_
  rintro e5 w5 ⟨rfl, hb5⟩
  replace HB := Lib.hid (HB.out.trans (hb5.mono HB.out.size))
  replace KX := Lib.hid (KX.out.below hb5)
  replace KY := Lib.hid (KY.out.below hb5)
  replace KZ := Lib.hid (KZ.out.below hb5)
  clear hb5
  have yZ := KZ.out
  have yZ_0 := yZ.c 0 _ rfl
  have yZ_1 := yZ.c 1 _ rfl
  have yZ_z := yZ.lt
  have yZ_f0 := yZ.f 0 _ rfl
  have yZ_f1 := yZ.f 1 _ rfl
  clear yZ
  go_wp2
  replace KX := Lib.hid (blk_other (b := w.heap.size) (n := (w.heap.size + 1 + 1)) (j := 1) (blk_other (b := w.heap.size) (n := (w.heap.size + 1 + 1)) (j := 0) KX.out (by omega) (.int .i64 (hiW v))) (by omega) (.int .u64 (loW v)))
  replace KY := Lib.hid (blk_other (b := (w.heap.size + 1)) (n := (w.heap.size + 1 + 1)) (j := 1) (blk_other (b := (w.heap.size + 1)) (n := (w.heap.size + 1 + 1)) (j := 0) KY.out (by omega) (.int .i64 (hiW v))) (by omega) (.int .u64 (loW v)))
  replace KZ := Lib.hid (blk_set (blk_set KZ.out (j := 0) (by simp) (.int .i64 (hiW v))) (j := 1) (by simp) (.int .u64 (loW v)))
  replace HB := Lib.hid ((HB.out.setCell (p := ⟨(w.heap.size + 1 + 1), 0, none⟩) (show w.heap.size ≤ (w.heap.size + 1 + 1) by omega) (.int .i64 (hiW v))).setCell (p := ⟨(w.heap.size + 1 + 1), 1, none⟩) (show w.heap.size ≤ (w.heap.size + 1 + 1) by omega) (.int .u64 (loW v)))
  clear yZ_0 yZ_1 yZ_z yZ_f0 yZ_f1
  generalize (w5.setCell ⟨(w.heap.size + 1 + 1), 0, none⟩ (.int .i64 (hiW v))).setCell ⟨(w.heap.size + 1 + 1), 1, none⟩ (.int .u64 (loW v)) = w6 at *
  simp only [List.set] at KZ
  have yZ := KZ.out
  have yZ_0 := yZ.c 0 _ rfl
  have yZ_1 := yZ.c 1 _ rfl
  have yZ_z := yZ.lt
  clear yZ
  refine bodyPost_ret (v := .tuple #[.agg #[.int .i64 (hiW v), .int .u64 (loW v)], .bool true]) (by simp [results, Tryz.results122, go_sem, yZ_0, yZ_1]) rfl ⟨rfl, HB.out⟩
set_option maxHeartbeats 16000000 in
set_option maxRecDepth 100000 in
theorem quo_nearP1eq (x d q r v : Int) (w : World) (h : QuoW x d q r) (hx : 0 ≤ x) (h0 : 0 ≤ q) (h1 : q < 85070591730234615865843651857942052864) (hr : ¬ r = 0) (hr0 : 0 ≤ r) (hr1 : r < d) (hd1 : d < 9223372036854775808) (hc : r = d - r) (hv : v = sgn false (q + 1)) :
    Calls Tryz.prog 122 #[wv x, .agg #[.int .i64 0, .int .u64 d], .int .i64 2] w fun e w' => e = .returned (.tuple #[wv v, .bool true]) ∧ Below w.heap.size w w' := by
  by_cases hcy : loW (q + 1) = 0
  · have gx : decide (hiW x < 0) = false := by have := hi_neg x; simp; omega
    have gr : (r == 0) = false := by simpa using hr
    have gr' : (r != 0) = true := by simpa using hr
    have gd : decide (d < r) = false := by simp; omega
    have gs : IntKind.u64.wrap (d - r) = d - r := by rw [IntKind.wrap_u64]; omega
    have gc : decide (d - r < r) = false := by simp; omega
    have ge : (r == d - r) = true := by simp; omega
    have ge' : (d - r == r) = true := by simp; omega
    have qs : IntKind.u64.wrap (loW q + 1) = loW (q + 1) := by rw [IntKind.wrap_u64]; unfold loW; omega
    have qc : (loW (q + 1) == 0) = true := by simpa using hcy
    have qh : IntKind.u64.wrap (hiW q + 1) = hiW (q + 1) := by rw [IntKind.wrap_u64]; unfold hiW loW at *; omega
    have J := Lib.hid fun w => rsigned_any (q + 1) false w (by omega) (by omega)
    rw [← hv] at J
    unfold wv at J ⊢
    clear hv
    generalize loW (q + 1) = ql at *
    clear h0 h1 hr0 hr1 hd1 hx hr hcy hc
    have SG := Lib.hid h.sg
    have SX := Lib.hid h.sx
    have SY := Lib.hid h.sy
    have DV := Lib.hid h.dv
    clear h
    have KX := Lib.hid (((Blk.of (vs := #[.int .i64 (hiW x), .int .u64 (loW x)]) (t := 49) (w := w) (b := w.heap.size) (by simp)).alloc (.cells #[.int .i64 0, .int .u64 d] 49)).alloc (.cells #[.int .i64 0, .int .u64 0] 49))
    have KY := Lib.hid ((Blk.of (vs := #[.int .i64 0, .int .u64 d]) (t := 49) (w := (w.alloc (.cells #[.int .i64 (hiW x), .int .u64 (loW x)] 49))) (b := w.heap.size + 1) (by simp)).alloc (.cells #[.int .i64 0, .int .u64 0] 49))
    have KZ := Lib.hid (Blk.of (vs := #[.int .i64 0, .int .u64 0]) (t := 49) (w := ((w.alloc (.cells #[.int .i64 (hiW x), .int .u64 (loW x)] 49)).alloc (.cells #[.int .i64 0, .int .u64 d] 49))) (b := w.heap.size + 1 + 1) (by simp))
    have HB := Lib.hid ((((Below.refl w.heap.size w).alloc (by simp; try omega) (.cells #[.int .i64 (hiW x), .int .u64 (loW x)] 49)).alloc (by simp; try omega) (.cells #[.int .i64 0, .int .u64 d] 49)).alloc (by simp; try omega) (.cells #[.int .i64 0, .int .u64 0] 49))
    go_enter Tryz.func122, Tryz.ntmps122
    go_wp2_with fail
    generalize ((w.alloc (.cells #[.int .i64 (hiW x), .int .u64 (loW x)] 49)).alloc (.cells #[.int .i64 0, .int .u64 d] 49)).alloc (.cells #[.int .i64 0, .int .u64 0] 49) = w0 at *
    refine (SG.out _).mono ?_
    rintro e1 w1 ⟨rfl, hb1⟩
    replace HB := Lib.hid (HB.out.trans (hb1.mono HB.out.size))
    replace KX := Lib.hid (KX.out.below hb1)
    replace KY := Lib.hid (KY.out.below hb1)
    replace KZ := Lib.hid (KZ.out.below hb1)
    clear hb1
    have yX := KX.out
    have yX_0 := yX.c 0 _ rfl
    have yX_1 := yX.c 1 _ rfl
    have yX_z := yX.lt
    clear yX
    have yY := KY.out
    have yY_0 := yY.c 0 _ rfl
    have yY_1 := yY.c 1 _ rfl
    have yY_z := yY.lt
    clear yY
    go_wp2_with fail
    refine (SX.out _).mono ?_
    rintro e2 w2 ⟨rfl, hb2⟩
    replace HB := Lib.hid (HB.out.trans (hb2.mono HB.out.size))
    replace KX := Lib.hid (KX.out.below hb2)
    replace KY := Lib.hid (KY.out.below hb2)
    replace KZ := Lib.hid (KZ.out.below hb2)
    clear yX_0 yX_1 yX_z yY_0 yY_1 yY_z
    clear hb2
    have yY := KY.out
    have yY_0 := yY.c 0 _ rfl
    have yY_1 := yY.c 1 _ rfl
    have yY_z := yY.lt
    clear yY
    go_wp2_with fail
    refine (SY.out _).mono ?_
    rintro e3 w3 ⟨rfl, hb3⟩
    replace HB := Lib.hid (HB.out.trans (hb3.mono HB.out.size))
    replace KX := Lib.hid (KX.out.below hb3)
    replace KY := Lib.hid (KY.out.below hb3)
    replace KZ := Lib.hid (KZ.out.below hb3)
    clear yY_0 yY_1 yY_z
    clear hb3
    go_wp2_with fail
    refine (DV.out _).mono ?_
    rintro e4 w4 ⟨rfl, hb4⟩
    replace HB := Lib.hid (HB.out.trans (hb4.mono HB.out.size))
    replace KX := Lib.hid (KX.out.below hb4)
    replace KY := Lib.hid (KY.out.below hb4)
    replace KZ := Lib.hid (KZ.out.below hb4)
    clear hb4
    go_wp2_with fail
    refine (J.out _).mono ?_
    rintro e5 w5 ⟨rfl, hb5⟩
    replace HB := Lib.hid (HB.out.trans (hb5.mono HB.out.size))
    replace KX := Lib.hid (KX.out.below hb5)
    replace KY := Lib.hid (KY.out.below hb5)
    replace KZ := Lib.hid (KZ.out.below hb5)
    clear hb5
    have yZ := KZ.out
    have yZ_0 := yZ.c 0 _ rfl
    have yZ_1 := yZ.c 1 _ rfl
    have yZ_z := yZ.lt
    have yZ_f0 := yZ.f 0 _ rfl
    have yZ_f1 := yZ.f 1 _ rfl
    clear yZ
    go_wp2
    replace KX := Lib.hid (blk_other (b := w.heap.size) (n := (w.heap.size + 1 + 1)) (j := 1) (blk_other (b := w.heap.size) (n := (w.heap.size + 1 + 1)) (j := 0) KX.out (by omega) (.int .i64 (hiW v))) (by omega) (.int .u64 (loW v)))
    replace KY := Lib.hid (blk_other (b := (w.heap.size + 1)) (n := (w.heap.size + 1 + 1)) (j := 1) (blk_other (b := (w.heap.size + 1)) (n := (w.heap.size + 1 + 1)) (j := 0) KY.out (by omega) (.int .i64 (hiW v))) (by omega) (.int .u64 (loW v)))
    replace KZ := Lib.hid (blk_set (blk_set KZ.out (j := 0) (by simp) (.int .i64 (hiW v))) (j := 1) (by simp) (.int .u64 (loW v)))
    replace HB := Lib.hid ((HB.out.setCell (p := ⟨(w.heap.size + 1 + 1), 0, none⟩) (show w.heap.size ≤ (w.heap.size + 1 + 1) by omega) (.int .i64 (hiW v))).setCell (p := ⟨(w.heap.size + 1 + 1), 1, none⟩) (show w.heap.size ≤ (w.heap.size + 1 + 1) by omega) (.int .u64 (loW v)))
    clear yZ_0 yZ_1 yZ_z yZ_f0 yZ_f1
    generalize (w5.setCell ⟨(w.heap.size + 1 + 1), 0, none⟩ (.int .i64 (hiW v))).setCell ⟨(w.heap.size + 1 + 1), 1, none⟩ (.int .u64 (loW v)) = w6 at *
    simp only [List.set] at KZ
    have yZ := KZ.out
    have yZ_0 := yZ.c 0 _ rfl
    have yZ_1 := yZ.c 1 _ rfl
    have yZ_z := yZ.lt
    clear yZ
    refine bodyPost_ret (v := .tuple #[.agg #[.int .i64 (hiW v), .int .u64 (loW v)], .bool true]) (by simp [results, Tryz.results122, go_sem, yZ_0, yZ_1]) rfl ⟨rfl, HB.out⟩
  · have gx : decide (hiW x < 0) = false := by have := hi_neg x; simp; omega
    have gr : (r == 0) = false := by simpa using hr
    have gr' : (r != 0) = true := by simpa using hr
    have gd : decide (d < r) = false := by simp; omega
    have gs : IntKind.u64.wrap (d - r) = d - r := by rw [IntKind.wrap_u64]; omega
    have gc : decide (d - r < r) = false := by simp; omega
    have ge : (r == d - r) = true := by simp; omega
    have ge' : (d - r == r) = true := by simp; omega
    have qs : IntKind.u64.wrap (loW q + 1) = loW (q + 1) := by rw [IntKind.wrap_u64]; unfold loW; omega
    have qc : (loW (q + 1) == 0) = false := by simpa using hcy
    have qh : hiW q = hiW (q + 1) := by unfold hiW loW at *; omega
    have J := Lib.hid fun w => rsigned_any (q + 1) false w (by omega) (by omega)
    rw [← hv] at J
    unfold wv at J ⊢
    clear hv
    rw [← qh] at J
    clear qh
    generalize loW (q + 1) = ql at *
    clear h0 h1 hr0 hr1 hd1 hx hr hcy hc
    have SG := Lib.hid h.sg
    have SX := Lib.hid h.sx
    have SY := Lib.hid h.sy
    have DV := Lib.hid h.dv
    clear h
    have KX := Lib.hid (((Blk.of (vs := #[.int .i64 (hiW x), .int .u64 (loW x)]) (t := 49) (w := w) (b := w.heap.size) (by simp)).alloc (.cells #[.int .i64 0, .int .u64 d] 49)).alloc (.cells #[.int .i64 0, .int .u64 0] 49))
    have KY := Lib.hid ((Blk.of (vs := #[.int .i64 0, .int .u64 d]) (t := 49) (w := (w.alloc (.cells #[.int .i64 (hiW x), .int .u64 (loW x)] 49))) (b := w.heap.size + 1) (by simp)).alloc (.cells #[.int .i64 0, .int .u64 0] 49))
    have KZ := Lib.hid (Blk.of (vs := #[.int .i64 0, .int .u64 0]) (t := 49) (w := ((w.alloc (.cells #[.int .i64 (hiW x), .int .u64 (loW x)] 49)).alloc (.cells #[.int .i64 0, .int .u64 d] 49))) (b := w.heap.size + 1 + 1) (by simp))
    have HB := Lib.hid ((((Below.refl w.heap.size w).alloc (by simp; try omega) (.cells #[.int .i64 (hiW x), .int .u64 (loW x)] 49)).alloc (by simp; try omega) (.cells #[.int .i64 0, .int .u64 d] 49)).alloc (by simp; try omega) (.cells #[.int .i64 0, .int .u64 0] 49))
    go_enter Tryz.func122, Tryz.ntmps122
    go_wp2_with fail
    generalize ((w.alloc (.cells #[.int .i64 (hiW x), .int .u64 (loW x)] 49)).alloc (.cells #[.int .i64 0, .int .u64 d] 49)).alloc (.cells #[.int .i64 0, .int .u64 0] 49) = w0 at *
    refine (SG.out _).mono ?_
    rintro e1 w1 ⟨rfl, hb1⟩
    replace HB := Lib.hid (HB.out.trans (hb1.mono HB.out.size))
    replace KX := Lib.hid (KX.out.below hb1)
    replace KY := Lib.hid (KY.out.below hb1)
    replace KZ := Lib.hid (KZ.out.below hb1)
    clear hb1
    have yX := KX.out
    have yX_0 := yX.c 0 _ rfl
    have yX_1 := yX.c 1 _ rfl
    have yX_z := yX.lt
    clear yX
    have yY := KY.out
    have yY_0 := yY.c 0 _ rfl
    have yY_1 := yY.c 1 _ rfl
    have yY_z := yY.lt
    clear yY
    go_wp2_with fail
    refine (SX.out _).mono ?_
    rintro e2 w2 ⟨rfl, hb2⟩
    replace HB := Lib.hid (HB.out.trans (hb2.mono HB.out.size))
    replace KX := Lib.hid (KX.out.below hb2)
    replace KY := Lib.hid (KY.out.below hb2)
    replace KZ := Lib.hid (KZ.out.below hb2)
    clear yX_0 yX_1 yX_z yY_0 yY_1 yY_z
    clear hb2
    have yY := KY.out
    have yY_0 := yY.c 0 _ rfl
    have yY_1 := yY.c 1 _ rfl
    have yY_z := yY.lt
    clear yY
    go_wp2_with fail
    refine (SY.out _).mono ?_
    rintro e3 w3 ⟨rfl, hb3⟩
    replace HB := Lib.hid (HB.out.trans (hb3.mono HB.out.size))
    replace KX := Lib.hid (KX.out.below hb3)
    replace KY := Lib.hid (KY.out.below hb3)
    replace KZ := Lib.hid (KZ.out.below hb3)
    clear yY_0 yY_1 yY_z
    clear hb3
    go_wp2_with fail
    refine (DV.out _).mono ?_
    rintro e4 w4 ⟨rfl, hb4⟩
    replace HB := Lib.hid (HB.out.trans (hb4.mono HB.out.size))
    replace KX := Lib.hid (KX.out.below hb4)
    replace KY := Lib.hid (KY.out.below hb4)
    replace KZ := Lib.hid (KZ.out.below hb4)
    clear hb4
    go_wp2_with fail
    refine (J.out _).mono ?_
    rintro e5 w5 ⟨rfl, hb5⟩
    replace HB := Lib.hid (HB.out.trans (hb5.mono HB.out.size))
    replace KX := Lib.hid (KX.out.below hb5)
    replace KY := Lib.hid (KY.out.below hb5)
    replace KZ := Lib.hid (KZ.out.below hb5)
    clear hb5
    have yZ := KZ.out
    have yZ_0 := yZ.c 0 _ rfl
    have yZ_1 := yZ.c 1 _ rfl
    have yZ_z := yZ.lt
    have yZ_f0 := yZ.f 0 _ rfl
    have yZ_f1 := yZ.f 1 _ rfl
    clear yZ
    go_wp2
    replace KX := Lib.hid (blk_other (b := w.heap.size) (n := (w.heap.size + 1 + 1)) (j := 1) (blk_other (b := w.heap.size) (n := (w.heap.size + 1 + 1)) (j := 0) KX.out (by omega) (.int .i64 (hiW v))) (by omega) (.int .u64 (loW v)))
    replace KY := Lib.hid (blk_other (b := (w.heap.size + 1)) (n := (w.heap.size + 1 + 1)) (j := 1) (blk_other (b := (w.heap.size + 1)) (n := (w.heap.size + 1 + 1)) (j := 0) KY.out (by omega) (.int .i64 (hiW v))) (by omega) (.int .u64 (loW v)))
    replace KZ := Lib.hid (blk_set (blk_set KZ.out (j := 0) (by simp) (.int .i64 (hiW v))) (j := 1) (by simp) (.int .u64 (loW v)))
    replace HB := Lib.hid ((HB.out.setCell (p := ⟨(w.heap.size + 1 + 1), 0, none⟩) (show w.heap.size ≤ (w.heap.size + 1 + 1) by omega) (.int .i64 (hiW v))).setCell (p := ⟨(w.heap.size + 1 + 1), 1, none⟩) (show w.heap.size ≤ (w.heap.size + 1 + 1) by omega) (.int .u64 (loW v)))
    clear yZ_0 yZ_1 yZ_z yZ_f0 yZ_f1
    generalize (w5.setCell ⟨(w.heap.size + 1 + 1), 0, none⟩ (.int .i64 (hiW v))).setCell ⟨(w.heap.size + 1 + 1), 1, none⟩ (.int .u64 (loW v)) = w6 at *
    simp only [List.set] at KZ
    have yZ := KZ.out
    have yZ_0 := yZ.c 0 _ rfl
    have yZ_1 := yZ.c 1 _ rfl
    have yZ_z := yZ.lt
    clear yZ
    refine bodyPost_ret (v := .tuple #[.agg #[.int .i64 (hiW v), .int .u64 (loW v)], .bool true]) (by simp [results, Tryz.results122, go_sem, yZ_0, yZ_1]) rfl ⟨rfl, HB.out⟩
end Go.Proofs.YtplgdlooglnpmaaGreat
