/-
  The walks of the reference's size, signed and Of of layer 2.
-/
import Derived.Test.YtplgdlooglnpmaaLsqOne
import Derived.Test.YtplgdlooglnpmaaMeasBase
namespace Go.Proofs.Ytplgdlooglnpmaa
set_option linter.unusedVariables false
open Go.RowKit

theorem not_u64 {n : Int} (h0 : 0 ≤ n) (h1 : n < 18446744073709551616) : bits .xor .u64 IntKind.u64.max n = 18446744073709551615 - n := by
  rw [show IntKind.u64.max = 18446744073709551615 by rfl]
  obtain ⟨n, rfl⟩ := Int.eq_ofNat_of_zero_le h0
  have h2 : (BitVec.ofInt 64 (n : Int)).toNat = n := by
    rw [BitVec.ofInt_natCast, BitVec.toNat_ofNat]; exact Nat.mod_eq_of_lt (by omega)
  have e : BitVec.ofInt 64 18446744073709551615 = BitVec.allOnes 64 := by decide
  show IntKind.u64.wrap ((BitVec.ofInt 64 18446744073709551615 ^^^ BitVec.ofInt 64 (n : Int)).toNat : Int) = _
  rw [e, BitVec.allOnes_xor, BitVec.toNat_not, h2, IntKind.wrap_u64]
  omega
set_option maxHeartbeats 4000000 in
set_option maxRecDepth 100000 in
theorem rsize_any (x : Int) (w : World) (h : FitW x) :
    Calls Try.prog 105 #[wv x] w fun e w' => e = .returned (.tuple #[.int .u64 (hiW (absW x)), .int .u64 (loW (absW x))]) ∧ Below w.heap.size w w' := by
  obtain ⟨b0, b1⟩ := lo_rng x
  obtain ⟨a0, a1⟩ := hi_rng h
  unfold wv
  by_cases q : x < 0
  · have g' : decide (hiW x < 0) = true := by have := (hi_neg x).2 q; simp; omega
    have C : IntKind.u64.wrap (hiW x) = hiW x + 18446744073709551616 := by have := (hi_neg x).2 q; rw [IntKind.wrap_u64]; omega
    have N1 : bits .xor .u64 IntKind.u64.max (hiW x + 18446744073709551616) = -1 - hiW x := by rw [not_u64 (by omega) (by have := (hi_neg x).2 q; omega)]; omega
    have N2 := not_u64 b0 b1
    have W2 : IntKind.u64.wrap (18446744073709551615 - loW x + 1) = loW (absW x) := by rw [IntKind.wrap_u64]; unfold absW loW; rw [if_pos q]; omega
    by_cases z : loW (absW x) = 0
    · have gz : (loW (absW x) == 0) = true := by simpa using z
      have G0 : (IntKind.u64.wrap (bits .xor .u64 (if IntKind.u64.signed = true then -1 else IntKind.u64.max) (loW x) + 1) == 0) = true := by rw [show (if IntKind.u64.signed = true then -1 else IntKind.u64.max) = IntKind.u64.max from rfl, N2, W2]; exact gz
      have W1 : IntKind.u64.wrap (-1 - hiW x + 1) = hiW (absW x) := by
        obtain ⟨f0, f1⟩ := h
        rw [IntKind.wrap_u64]; unfold absW hiW loW at *; rw [if_pos q] at *; omega
      clear h q z a0 a1 b0 b1
      generalize hiW (absW x) = r1 at *
      generalize loW (absW x) = r2 at *
      go_enter Try.func105, Try.ntmps105
      go_wp2
      go_quiet (fail)
      go_wp2
      go_ret2
      exact ⟨rfl, below_drewN ((Below.refl _ _).alloc (Nat.le_refl _) _) _⟩
    · have gz : (loW (absW x) == 0) = false := by simpa using z
      have G0 : (IntKind.u64.wrap (bits .xor .u64 (if IntKind.u64.signed = true then -1 else IntKind.u64.max) (loW x) + 1) == 0) = false := by rw [show (if IntKind.u64.signed = true then -1 else IntKind.u64.max) = IntKind.u64.max from rfl, N2, W2]; exact gz
      have W1 : -1 - hiW x = hiW (absW x) := by
        obtain ⟨f0, f1⟩ := h
        unfold absW hiW loW at *; rw [if_pos q] at *; omega
      rw [W1] at N1
      clear h q z a0 a1 b0 b1 W1
      generalize hiW (absW x) = r1 at *
      generalize loW (absW x) = r2 at *
      go_enter Try.func105, Try.ntmps105
      go_wp2
      go_quiet (fail)
      go_wp2
      go_ret2
      exact ⟨rfl, below_drewN ((Below.refl _ _).alloc (Nat.le_refl _) _) _⟩
  · have g' : decide (hiW x < 0) = false := by have := hi_neg x; simp; omega
    have EA : absW x = x := by unfold absW; rw [if_neg q]
    have E1 : IntKind.u64.wrap (hiW x) = hiW x := by have := hi_neg x; rw [IntKind.wrap_u64]; omega
    rw [EA]
    clear EA h q
    go_enter Try.func105, Try.ntmps105
    go_wp2
    go_quiet (fail)
    go_wp2
    go_ret2
    exact ⟨rfl, below_drewN ((Below.refl _ _).alloc (Nat.le_refl _) _) _⟩
set_option maxHeartbeats 4000000 in
set_option maxRecDepth 100000 in
theorem rsigned_any (n : Int) (neg : Bool) (w : World) (h0 : 0 ≤ n) (h1 : n < 170141183460469231731687303715884105728) :
    Calls Try.prog 76 #[.bool neg, .int .u64 (hiW n), .int .u64 (loW n)] w fun e w' => e = .returned (.tuple #[wv (sgn neg n), .bool true]) ∧ Below w.heap.size w w' := by
  have a0 : 0 ≤ hiW n := by unfold hiW; omega
  have a1 : hiW n < 9223372036854775808 := by unfold hiW; omega
  obtain ⟨b0, b1⟩ := lo_rng n
  have g1 : decide (9223372036854775808 < hiW n) = false := by simp; omega
  have g2 : (hiW n == 9223372036854775808) = false := by simp; omega
  cases neg
  · have e1 : IntKind.i64.wrap (hiW n) = hiW n := IntWalk.i64_in _ (by omega)
    have es : sgn false n = n := rfl
    rw [es]
    unfold wv
    go_enter Try.func76, Try.ntmps76
    go_wp2
    refine bodyPost_ret (v := .tuple #[.agg #[.int .i64 (hiW n), .int .u64 (loW n)], .bool true]) (by simp [results, Try.results76, go_sem]) rfl ⟨rfl, ?_⟩
    exact (Below.refl _ _).alloc (Nat.le_refl _) _
  · have es : sgn true n = -n := rfl
    rw [es]
    have N1 := not_u64 a0 (show hiW n < 18446744073709551616 by omega)
    have N2 := not_u64 b0 b1
    have W2 : IntKind.u64.wrap (18446744073709551615 - loW n + 1) = loW (-n) := by rw [IntKind.wrap_u64]; unfold loW; omega
    by_cases z : loW (-n) = 0
    · have gz : (loW (-n) == 0) = true := by simpa using z
      have G0 : (IntKind.u64.wrap (bits .xor .u64 (if IntKind.u64.signed = true then -1 else IntKind.u64.max) (loW n) + 1) == 0) = true := by rw [show (if IntKind.u64.signed = true then -1 else IntKind.u64.max) = IntKind.u64.max from rfl, N2, W2]; exact gz
      have W1 : IntKind.i64.wrap (IntKind.u64.wrap (18446744073709551615 - hiW n + 1)) = hiW (-n) := by
        rw [IntKind.wrap_u64]
        unfold hiW loW at *
        simp only [IntKind.wrap, IntKind.bits, IntKind.signed]
        simp
        omega
      have W3 : wrap64 (IntKind.u64.wrap (18446744073709551615 - hiW n + 1)) = hiW (-n) := by
        rw [IntKind.wrap_u64]
        unfold wrap64 hiW loW at *
        omega
      obtain ⟨m, hm⟩ : ∃ m, IntKind.u64.wrap (18446744073709551615 - hiW n + 1) = m := ⟨_, rfl⟩
      rw [hm] at W1 W3
      clear z
      unfold wv
      generalize hiW (-n) = r1 at *
      generalize loW (-n) = r2 at *
      go_enter Try.func76, Try.ntmps76
      go_wp2
      refine bodyPost_ret (v := .tuple #[.agg #[.int .i64 r1, .int .u64 r2], .bool true]) (by simp [results, Try.results76, go_sem]) rfl ⟨rfl, ?_⟩
      exact (Below.refl _ _).alloc (Nat.le_refl _) _
    · have gz : (loW (-n) == 0) = false := by simpa using z
      have G0 : (IntKind.u64.wrap (bits .xor .u64 (if IntKind.u64.signed = true then -1 else IntKind.u64.max) (loW n) + 1) == 0) = false := by rw [show (if IntKind.u64.signed = true then -1 else IntKind.u64.max) = IntKind.u64.max from rfl, N2, W2]; exact gz
      have W1 : IntKind.i64.wrap (18446744073709551615 - hiW n) = hiW (-n) := by
        unfold hiW loW at *
        simp only [IntKind.wrap, IntKind.bits, IntKind.signed]
        simp
        omega
      have W3 : wrap64 (18446744073709551615 - hiW n) = hiW (-n) := by
        unfold wrap64 hiW loW at *
        omega
      clear z
      unfold wv
      generalize hiW (-n) = r1 at *
      generalize loW (-n) = r2 at *
      go_enter Try.func76, Try.ntmps76
      go_wp2
      refine bodyPost_ret (v := .tuple #[.agg #[.int .i64 r1, .int .u64 r2], .bool true]) (by simp [results, Try.results76, go_sem]) rfl ⟨rfl, ?_⟩
      exact (Below.refl _ _).alloc (Nat.le_refl _) _
set_option maxHeartbeats 4000000 in
theorem rof_any (a : Int) (w : World) (h0 : -9223372036854775808 ≤ a) (h1 : a ≤ 9223372036854775807) :
    Calls Try.prog 70 #[.int .i64 a] w fun e w' => e = .returned (wv a) ∧ Below w.heap.size w w' := by
  have E2 : IntKind.u64.wrap a = loW a := by rw [IntKind.wrap_u64]; rfl
  by_cases q : a < 0
  · have g : decide (a < 0) = true := by simpa using q
    have E1 : hiW a = -1 := by unfold hiW; omega
    unfold wv
    rw [E1]
    clear q
    go_enter Try.func70, Try.ntmps70
    go_wp2
    refine bodyPost_ret (v := .agg #[.int .i64 (-1), .int .u64 (loW a)]) (by simp [results, Try.results70, go_sem]) rfl ⟨rfl, ?_⟩
    exact (Below.refl _ _).alloc (Nat.le_refl _) _
  · have g : decide (a < 0) = false := by simpa using q
    have E1 : hiW a = 0 := by unfold hiW; omega
    unfold wv
    rw [E1]
    clear q
    go_enter Try.func70, Try.ntmps70
    go_wp2
    refine bodyPost_ret (v := .agg #[.int .i64 0, .int .u64 (loW a)]) (by simp [results, Try.results70, go_sem]) rfl ⟨rfl, ?_⟩
    exact (Below.refl _ _).alloc (Nat.le_refl _) _
end Go.Proofs.Ytplgdlooglnpmaa
