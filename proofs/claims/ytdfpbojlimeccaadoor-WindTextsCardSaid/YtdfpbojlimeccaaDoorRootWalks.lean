/-
  The walks of fixed.Sqrt and trig.Hypot: the root, rounded down.
-/
import Derived.Test.YtdfpbojlimeccaaDoorAtanThree
import Derived.Test.YtdfpbojlimeccaaDoorShelf
namespace Go.Proofs.YtdfpbojlimeccaaDoor
set_option linter.unusedVariables false
open Go.RowKit Tr Sq

theorem len64_any (x : Int) (w : World) (h0 : 0 ≤ x) (h1 : x ≤ 18446744073709551615) :
    Calls Tryd.prog 66 #[.int .u64 x] w fun e w' => e = .returned (.int .i64 (Lib.bitLen x.toNat)) ∧ w = w' :=
  (Tryd.bits_Len64 x w h0 h1).mono fun e w' ⟨he, hw⟩ => ⟨he, hw.symm⟩

def RootRel (n : Int) (v : Value) : Prop := ∃ x : Int, v = .int .i64 x ∧ 1 ≤ x ∧ x ≤ 4294967296 ∧ Hid (n < (x + 1) * (x + 1))

theorem root_start (n : Int) (b : Nat) (hb : b ≤ 63) (hn : n.toNat < 2 ^ b) (h0 : 0 ≤ n) : RootRel n (.int .i64 (wrap64 (2 ^ ((b + 1) / 2)))) := by
  have k32 : (b + 1) / 2 ≤ 32 := by omega
  have h1 : (1 : Int) ≤ 2 ^ ((b + 1) / 2) := by have := Int.pow_pos (m := (b + 1) / 2) (show (0 : Int) < 2 by decide); omega
  have h2 : (2 : Int) ^ ((b + 1) / 2) ≤ 2 ^ 32 := by
    have := Nat.pow_le_pow_right (n := 2) (by decide) k32
    have e : ((2 ^ ((b + 1) / 2) : Nat) : Int) ≤ ((2 ^ 32 : Nat) : Int) := by omega
    rw [Int.natCast_pow, Int.natCast_pow] at e
    exact e
  have h3 : n < 2 ^ ((b + 1) / 2) * 2 ^ ((b + 1) / 2) := by
    rw [← Int.pow_add]
    have := Nat.pow_le_pow_right (n := 2) (by decide) (show b ≤ (b + 1) / 2 + (b + 1) / 2 by omega)
    have e : ((2 ^ ((b + 1) / 2 + (b + 1) / 2) : Nat) : Int) = (2 : Int) ^ ((b + 1) / 2 + (b + 1) / 2) := by rw [Int.natCast_pow]; rfl
    omega
  generalize (2 : Int) ^ ((b + 1) / 2) = x at *
  have h2' : x ≤ 4294967296 := by have : (2 : Int) ^ 32 = 4294967296 := by decide
                                  omega
  refine ⟨x, by rw [IntWalk.wrap64_in x ⟨by omega, by omega⟩], h1, h2', ?_⟩
  show n < (x + 1) * (x + 1)
  have := sq_le (a := x) (b := x + 1) (by omega) (by omega)
  omega

set_option maxHeartbeats 1000000 in
theorem sqrt_pos (n : Int) (w : World) (h0 : 1 ≤ n) (h1 : n ≤ 9223372036854775807) :
    Calls Tryd.prog 40 #[.int .i64 n] w fun e w' => e = .returned (.int .i64 (isq n)) ∧ w = w' := by
  have hb0 : Lib.bitLen n.toNat ≤ 63 := Lib.bitLen_le _ _ (by decide) (by omega)
  have hb1 : n.toNat < 2 ^ Lib.bitLen n.toNat := (Lib.bitLenAux_bounds 64 n.toNat (by omega) (by omega)).2.2
  generalize hb : Lib.bitLen n.toNat = b at hb0 hb1
  have HB := Lib.hid hb
  have R0 := Lib.hid (root_start n b hb0 hb1 (by omega))
  clear hb hb1
  go_enter Tryd.func40, Tryd.ntmps40
  go_wp2_with (go_at_call 66; refine (len64_any _ _ (by omega) (by omega)).mono ?_; rintro e w' ⟨rfl, rfl⟩; rw [HB.out])
  go_loop [3] (RootRel n) (fun v => (intOf v).toNat)
  case atStart => exact R0.out
  case round =>
    obtain ⟨x, rfl, x1, x2, hx⟩ := hrel
    have q0 : 0 ≤ n / x := Int.ediv_nonneg (by omega) (by omega)
    have q1 : n / x < x + 3 := by
      apply Int.ediv_lt_of_lt_mul (by omega)
      have := hx.out
      have e : (x + 3) * x = (x + 1) * (x + 1) + x - 1 := by grind
      omega
    have hnw := Lib.hid (newton (n := n) (x := x) (by omega) (by omega))
    have hend := Lib.hid (newton_end (n := n) (x := x) (by omega))
    have hpos : 1 ≤ (x + n / x) / 2 := by
      have h := hnw.out
      rcases Int.lt_or_le ((x + n / x) / 2) 1 with h' | h'
      · exfalso
        have : (x + n / x) / 2 = 0 := by omega
        rw [this] at h; omega
      · exact h'
    by_cases hgo : x ≤ (x + n / x) / 2
    · go_wp2
      go_ret
      exact ⟨ret_int (isq_of ⟨by omega, hend.out hgo, hx.out⟩ (by omega)).symm, rfl⟩
    · go_wp2
      go_round
      case rel => exact ⟨(x + n / x) / 2, rfl, hpos, by omega, hnw.out⟩
      case measure => simp [intOf]; omega

theorem sqrt_any (n : Int) (w : World) (h0 : -9223372036854775808 ≤ n) (h1 : n ≤ 9223372036854775807) :
    Calls Tryd.prog 40 #[.int .i64 n] w fun e w' => e = .returned (.int .i64 (isq n)) ∧ w = w' := by
  rcases Int.lt_or_le 0 n with h | h
  · exact sqrt_pos n w (by omega) h1
  · go_enter Tryd.func40, Tryd.ntmps40
    go_wp2
    go_ret
    exact ⟨ret_int (isq_le0 h).symm, rfl⟩

/-- Hypot in range -/
theorem hyp_bd {x : Int} (h0 : -1073741824 ≤ x) (h1 : x ≤ 1073741824) : 0 ≤ x * x ∧ x * x ≤ 1152921504606846976 := by
  refine ⟨sq_nonneg x, ?_⟩
  rcases Int.le_total 0 x with h | h
  · exact sq_le h h1
  · have := sq_le (a := -x) (b := 1073741824) (by omega) (by omega)
    rwa [Int.neg_mul_neg] at this
def HypPost (x y : Int) (w : World) (e : Ending) (w' : World) : Prop := e = .returned (.tuple #[.int .i64 (isq (x * x + y * y)), .int .i64 0]) ∧ w = w'
theorem hypot_ok (x y : Int) (w : World) (h0 : -1073741824 ≤ x) (h1 : x ≤ 1073741824) (h2 : -1073741824 ≤ y) (h3 : y ≤ 1073741824) :
    Calls Tryd.prog 50 #[.int .i64 x, .int .i64 y] w (HypPost x y w) := by
  obtain ⟨a0, a1⟩ := hyp_bd h0 h1
  obtain ⟨b0, b1⟩ := hyp_bd h2 h3
  go_enter Tryd.func50, Tryd.ntmps50
  go_wp2_with (first
    | (go_at_call 67; refine (out_ok _ _ (by omega) (by omega)).mono ?_; rintro e w' ⟨rfl, rfl⟩)
    | (go_at_call 40; refine (sqrt_any _ _ (by omega) (by omega)).mono ?_; rintro e w' ⟨rfl, rfl⟩))
  go_ret2
  exact ⟨rfl, rfl⟩
end Go.Proofs.YtdfpbojlimeccaaDoor
