/-
  The walks of wide.Mul, wide.Add and wide.Int, on numbers that fit.
-/
import Derived.Test.YtplgdlooglnpmaaWidePlain
import Derived.Test.YtplgdlooglnpmaaBlk
import Derived.Test.YtplgdlooglnpmaaShelf
import Derived.WalkKit
import Derived.WalkSpells
import Derived.IntWalk
import Derived.Lib.Hide
import Derived.BigQuiet
import Derived.Deep.QuietTactic
import Derived.LoopTactic
import Derived.Deep.Cut
namespace Go.Proofs.Ytplgdlooglnpmaa
set_option linter.unusedVariables false
open Go.RowKit

theorem bset2 {B n : Nat} {w w1 : World} (h : Below B w w1) (hB : B ≤ n) (u v : Value) : Below B w ((w1.setCell ⟨n, 0, none⟩ u).setCell ⟨n, 1, none⟩ v) :=
  (h.setCell (p := ⟨n, 0, none⟩) hB u).setCell (p := ⟨n, 1, none⟩) hB v
theorem ret_iw {k : IntKind} {a b : Int} (h : a = b) : Ending.returned (.int k a) = .returned (.int k b) := by rw [h]
/-- the value of a number of 128 bits -/
def wv (x : Int) : Value := .agg #[.int .i64 (hiW x), .int .u64 (loW x)]
theorem wv_of {x a b : Int} (h : a = hiW x) (h' : b = loW x) : Value.agg #[.int .i64 a, .int .u64 b] = wv x := by unfold wv; rw [h, h']
theorem add64 (x y c : Int) (hx : 0 ≤ x) (hy : 0 ≤ y) (hc0 : 0 ≤ c) (hc : c ≤ 1) (w : World) : (callFunc 90 #[.int .u64 x, .int .u64 y, .int .u64 c]).run Try.prog w =
    .ok (.value (.tuple #[.int .u64 ((x + y + c) % 18446744073709551616), .int .u64 ((x + y + c) / 18446744073709551616)])) w := by
  obtain ⟨x, rfl⟩ := Int.eq_ofNat_of_zero_le hx
  obtain ⟨y, rfl⟩ := Int.eq_ofNat_of_zero_le hy
  obtain ⟨c, rfl⟩ := Int.eq_ofNat_of_zero_le hc0
  refine (Try.bits_Add64 x y c (by omega) w).trans ?_
  congr 5 <;> omega
/-- the borrow -/
def bor (x y b : Int) : Int := if x < y + b then 1 else 0
theorem bor_rng (x y b : Int) : 0 ≤ bor x y b ∧ bor x y b ≤ 1 := by unfold bor; split <;> omega
theorem sub64 (x y b : Int) (hx : 0 ≤ x) (hy : 0 ≤ y) (hy' : y < 18446744073709551616) (hb0 : 0 ≤ b) (hb : b ≤ 1) (w : World) : (callFunc 67 #[.int .u64 x, .int .u64 y, .int .u64 b]).run Try.prog w =
    .ok (.value (.tuple #[.int .u64 ((x - y - b) % 18446744073709551616), .int .u64 (bor x y b)])) w := by
  unfold bor
  obtain ⟨x, rfl⟩ := Int.eq_ofNat_of_zero_le hx
  obtain ⟨y, rfl⟩ := Int.eq_ofNat_of_zero_le hy
  obtain ⟨b, rfl⟩ := Int.eq_ofNat_of_zero_le hb0
  have e1 : (((x + 18446744073709551616 - y - b) % 18446744073709551616 : Nat) : Int) = ((x : Int) - y - b) % 18446744073709551616 := by omega
  have e2 : ((if x < y + b then 1 else 0 : Nat) : Int) = if (x : Int) < y + b then 1 else 0 := by split <;> split <;> omega
  rw [← e1, ← e2]
  exact Try.bits_Sub64 x y b (by omega) w
theorem wabs_any (a : Int) (w : World) (h0 : -9223372036854775808 ≤ a) (h1 : a ≤ 9223372036854775807) :
    Calls Try.prog 64 #[.int .i64 a] w fun e w' => e = .returned (.int .u64 (absW a)) ∧ w = w' := by
  by_cases h : a < 0
  · have g : decide (a < 0) = true := by simpa using h
    go_enter Try.func64, Try.ntmps64
    go_wp2
    go_ret
    refine ⟨ret_iw ?_, rfl⟩
    unfold absW
    rw [if_pos (by omega)]
    simp only [IntKind.wrap_u64]
    omega
  · have g : decide (a < 0) = false := by simpa using h
    go_enter Try.func64, Try.ntmps64
    go_wp2
    go_ret
    refine ⟨ret_iw ?_, rfl⟩
    unfold absW
    rw [if_neg (by omega)]
theorem mul64_int (x y : Int) (hx0 : 0 ≤ x) (hx : x < 18446744073709551616) (hy0 : 0 ≤ y) (hy : y < 18446744073709551616) (w : World) :
    Calls Try.prog 63 #[.int .u64 x, .int .u64 y] w fun e w' => e = .returned (.tuple #[.int .u64 (hiW (x * y)), .int .u64 (loW (x * y))]) ∧ w = w' := by
  obtain ⟨x, rfl⟩ := Int.eq_ofNat_of_zero_le hx0
  obtain ⟨y, rfl⟩ := Int.eq_ofNat_of_zero_le hy0
  refine (Try.bits_Mul64 x y (by omega) (by omega) w).mono fun e w' ⟨he, hw⟩ => ⟨?_, hw.symm⟩
  rw [he]
  unfold hiW loW
  rw [← Int.natCast_mul]
  rfl
def sgn (neg : Bool) (n : Int) : Int := if neg = true then -n else n
set_option maxHeartbeats 4000000 in
theorem join_any (n : Int) (neg : Bool) (w : World) (h0 : 0 ≤ n) (h1 : n < 170141183460469231731687303715884105728) :
    Calls Try.prog 65 #[.agg #[.int .u64 (hiW n), .int .u64 (loW n)], .bool neg] w fun e w' => e = .returned (.tuple #[wv (sgn neg n), .bool true]) ∧ Below w.heap.size w w' := by
  have a0 : 0 ≤ hiW n := by unfold hiW; omega
  have a1 : hiW n < 9223372036854775808 := by unfold hiW; omega
  obtain ⟨b0, b1⟩ := lo_rng n
  cases neg
  · have g : decide ((9223372036854775808 : Int) ≤ hiW n) = false := by simp; omega
    have e1 : IntKind.i64.wrap (hiW n) = hiW n := IntWalk.i64_in _ (by omega)
    go_enter Try.func65, Try.ntmps65
    go_wp2
    refine bodyPost_ret (v := .tuple #[.agg #[.int .i64 (hiW n), .int .u64 (loW n)], .bool true]) (by simp [results, Try.results65, go_sem]) rfl ⟨rfl, ?_⟩
    exact ((Below.refl _ _).alloc (Nat.le_refl _) _).alloc (by simp) _
  · have g1 : decide ((9223372036854775808 : Int) < hiW n) = false := by simp; omega
    have g2 : (hiW n == 9223372036854775808) = false := by simp; omega
    have S1 := fun w => sub64 0 (loW n) 0 (by omega) b0 b1 (by omega) (by omega) w
    have S2 := fun w => sub64 0 (hiW n) (bor 0 (loW n) 0) (by omega) a0 (by omega) (bor_rng _ _ _).1 (bor_rng _ _ _).2 w
    have E1 : (0 - loW n - 0) % 18446744073709551616 = loW (-n) := by unfold loW; omega
    have E2 : IntKind.i64.wrap ((0 - hiW n - bor 0 (loW n) 0) % 18446744073709551616) = hiW (-n) := by
      unfold bor hiW loW
      simp only [IntKind.wrap, IntKind.bits, IntKind.signed]
      split <;> simp <;> omega
    rw [E1] at S1
    generalize bor 0 (loW n) 0 = bo at *
    generalize (0 - hiW n - bo) % 18446744073709551616 = hh at *
    go_enter Try.func65, Try.ntmps65
    go_wp2_with (first | simp only [S1] | simp only [S2])
    refine bodyPost_ret (v := .tuple #[.agg #[.int .i64 (hiW (-n)), .int .u64 (loW (-n))], .bool true]) (by simp [results, Try.results65, go_sem]) rfl ⟨rfl, ?_⟩
    exact ((Below.refl _ _).alloc (Nat.le_refl _) _).alloc (by simp) _
set_option maxHeartbeats 4000000 in
set_option maxRecDepth 100000 in
theorem wmul_any (a b : Int) (w : World) (ha0 : -9223372036854775808 ≤ a) (ha1 : a ≤ 9223372036854775807) (hb0 : -9223372036854775808 ≤ b) (hb1 : b ≤ 9223372036854775807) :
    Calls Try.prog 44 #[.int .i64 a, .int .i64 b] w fun e w' => e = .returned (wv (a * b)) ∧ Below w.heap.size w w' := by
  have A1 : absW a ≤ 9223372036854775808 := by unfold absW; split <;> omega
  have B1 : absW b ≤ 9223372036854775808 := by unfold absW; split <;> omega
  obtain ⟨m0, m1⟩ := mul_u (absW_nonneg a) A1 (absW_nonneg b) B1
  have M := Lib.hid fun w => mul64_int (absW a) (absW b) (absW_nonneg a) (by omega) (absW_nonneg b) (by omega) w
  have AA := Lib.hid fun w => wabs_any a w ha0 ha1
  have AB := Lib.hid fun w => wabs_any b w hb0 hb1
  have E := Lib.hid (absW_mul a b)
  have J := Lib.hid fun w => join_any (absW a * absW b) (decide (a < 0) != decide (b < 0)) w m0 (by omega)
  generalize absW a * absW b = p at *
  have K0 := Lib.hid (Blk.new #[.int .i64 0, .int .u64 0] w 51)
  have HB0 := Lib.hid ((Below.refl w.heap.size w).alloc (Nat.le_refl _) (.cells #[.int .i64 0, .int .u64 0] 51))
  obtain ⟨sg, gs⟩ : ∃ sg, (decide (a < 0) == decide (b < 0)) = sg := ⟨_, rfl⟩
  have E2 : a * b = sgn (!sg) p := by rw [E.out, ← gs]; rfl
  have J2 : Hid (∀ w, Calls Try.prog 65 #[.agg #[.int .u64 (hiW p), .int .u64 (loW p)], .bool (!sg)] w fun e w' => e = .returned (.tuple #[wv (sgn (!sg) p), .bool true]) ∧ Below w.heap.size w w') := by rw [← gs]; exact J
  rw [E2]
  clear E E2 J
  obtain ⟨r, hr⟩ : ∃ r, sgn (!sg) p = r := ⟨_, rfl⟩
  rw [hr] at J2 ⊢
  go_enter Try.func44, Try.ntmps44
  go_wp2_with fail
  generalize w.alloc (.cells #[.int .i64 0, .int .u64 0] 51) = w0 at *
  refine (AA.out _).mono ?_
  rintro e w1 ⟨rfl, rfl⟩
  go_wp2_with fail
  refine (AB.out _).mono ?_
  rintro e w1 ⟨rfl, rfl⟩
  go_wp2_with fail
  refine (M.out _).mono ?_
  rintro e w1 ⟨rfl, rfl⟩
  go_wp2_with fail
  refine (J2.out _).mono ?_
  rintro e w1 ⟨rfl, hb1⟩
  have K1 := K0.out.below hb1
  have HB1 := Lib.hid (HB0.out.trans (hb1.mono HB0.out.size))
  unfold wv
  have c0 := K1.c 0 _ rfl
  have c1 := K1.c 1 _ rfl
  have f0 := K1.f 0 _ rfl
  have f1 := K1.f 1 _ rfl
  have z0 := K1.lt
  have HK1 := Lib.hid K1
  clear hb1 K1 gs hr
  go_wp2
  have K2 := (blk_set (blk_set HK1.out (j := 0) (by simp) (.int .i64 (hiW r))) (j := 1) (by simp) (.int .u64 (loW r))).alloc (.cells #[.int .i64 (hiW r), .int .u64 (loW r)] 51)
  have d0 := K2.c 0 _ rfl
  have d1 := K2.c 1 _ rfl
  refine bodyPost_ret (v := .agg #[.int .i64 (hiW r), .int .u64 (loW r)]) (by simp [results, Try.results44, go_sem, d0, d1]) rfl ⟨rfl, ?_⟩
  exact (bset2 HB1.out (Nat.le_refl _) _ _).alloc (by have := HB1.out.size; simp [World.setCell]; omega) _
theorem conv_hi {x : Int} (h : FitW x) : IntKind.u64.wrap (hiW x) = hiW x % 18446744073709551616 := IntKind.wrap_u64 _
theorem add_hi {x y : Int} (h : FitW (x + y)) :
    IntKind.i64.wrap ((IntKind.u64.wrap (hiW x) + IntKind.u64.wrap (hiW y) + (loW x + loW y + 0) / 18446744073709551616) % 18446744073709551616) = hiW (x + y) := by
  obtain ⟨a, b⟩ := h
  unfold hiW loW
  simp only [IntKind.wrap, IntKind.bits, IntKind.signed]
  simp
  omega
theorem add_lo (x y : Int) : (loW x + loW y + 0) % 18446744073709551616 = loW (x + y) := by unfold loW; omega
set_option maxHeartbeats 4000000 in
set_option maxRecDepth 100000 in
theorem wadd_any (x y : Int) (w : World) (hx : FitW x) (hy : FitW y) (hs : FitW (x + y)) :
    Calls Try.prog 62 #[wv x, wv y] w fun e w' => e = .returned (.tuple #[wv (x + y), .bool true]) ∧ Below w.heap.size w w' := by
  obtain ⟨p0, p1⟩ := lo_rng x
  obtain ⟨q0, q1⟩ := lo_rng y
  have S1 := fun w => add64 (loW x) (loW y) 0 p0 q0 (by omega) (by omega) w
  have S2 := fun w => add64 (IntKind.u64.wrap (hiW x)) (IntKind.u64.wrap (hiW y)) ((loW x + loW y + 0) / 18446744073709551616) (by rw [IntKind.wrap_u64]; omega) (by rw [IntKind.wrap_u64]; omega) (by omega) (by omega) w
  have E1 := add_hi hs
  rw [add_lo x y] at S1
  have C1 : (decide (hiW x < 0) == decide (hiW y < 0)) = false ∨ ((decide (hiW x < 0) == decide (hiW y < 0)) = true ∧ (decide (hiW (x + y) < 0) == decide (hiW x < 0)) = true) := by
    obtain ⟨a, b⟩ := hs
    by_cases h1 : x < 0 <;> by_cases h2 : y < 0 <;> simp [hi_neg, h1, h2] <;> omega
  generalize (loW x + loW y + 0) / 18446744073709551616 = c at *
  generalize (IntKind.u64.wrap (hiW x) + IntKind.u64.wrap (hiW y) + c) % 18446744073709551616 = hh at *
  have HS := Lib.hid hs
  clear hx hy hs
  unfold wv
  rcases C1 with g | ⟨g, g'⟩
  all_goals
    go_enter Try.func62, Try.ntmps62
    go_wp2_with (first | simp only [S1] | simp only [S2])
    refine bodyPost_ret (v := .tuple #[.agg #[.int .i64 (hiW (x + y)), .int .u64 (loW (x + y))], .bool true]) (by simp [results, Try.results62, go_sem]) rfl ⟨rfl, ?_⟩
    exact (((Below.refl _ _).alloc (Nat.le_refl _) _).alloc (by simp) _).alloc (by simp; try omega) _
set_option maxHeartbeats 4000000 in
theorem wint_any (x : Int) (w : World) (h0 : -9223372036854775808 ≤ x) (h1 : x < 9223372036854775808) :
    Calls Try.prog 61 #[wv x] w fun e w' => e = .returned (.tuple #[.int .i64 x, .bool true]) ∧ Below w.heap.size w w' := by
  have E1 : IntKind.i64.wrap (loW x) = x := by unfold loW; simp [IntKind.wrap, IntKind.bits, IntKind.signed]; omega
  have g : (hiW x == x / 9223372036854775808) = true := by unfold hiW; simp; omega
  unfold wv
  go_enter Try.func61, Try.ntmps61
  go_wp2
  go_ret2
  exact ⟨rfl, (Below.refl _ _).alloc (Nat.le_refl _) _⟩
theorem wint_out (x : Int) (w : World) (hx : FitW x) (h : x < -9223372036854775808 ∨ 9223372036854775808 ≤ x) :
    Calls Try.prog 61 #[wv x] w fun e w' => e = .returned (.tuple #[.int .i64 0, .bool false]) ∧ Below w.heap.size w w' := by
  obtain ⟨t, ht⟩ : ∃ t, IntKind.i64.wrap (loW x) = t := ⟨_, rfl⟩
  have g : (hiW x == t / 9223372036854775808) = false := by
    obtain ⟨a, b⟩ := hx
    rw [← ht]
    unfold hiW loW; simp [IntKind.wrap, IntKind.bits, IntKind.signed]; omega
  unfold wv
  go_enter Try.func61, Try.ntmps61
  go_wp2
  go_ret2
  exact ⟨rfl, (Below.refl _ _).alloc (Nat.le_refl _) _⟩
end Go.Proofs.Ytplgdlooglnpmaa
