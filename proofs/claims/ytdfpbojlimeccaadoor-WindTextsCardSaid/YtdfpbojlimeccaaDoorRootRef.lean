/-
  The walks of the reference's roots, sizes and Hypot.
-/
import Derived.Test.YtdfpbojlimeccaaDoorAtanRef
import Derived.Test.YtdfpbojlimeccaaDoorRootWalks
namespace Go.Proofs.YtdfpbojlimeccaaDoor
set_option linter.unusedVariables false
open Go.RowKit Tr Sq

def BitRel (n : Int) (s3 s4 : Value) : Prop := ∃ (j : Nat) (r b : Int), s3 = .int .u64 r ∧ s4 = .int .u64 b ∧ 0 ≤ r ∧ 0 ≤ b ∧ r + 2 * b ≤ 4294967296 ∧ r ≤ 4294967295 ∧ Hid (b = 2 ^ j / 2) ∧ Hid (r * r ≤ n) ∧ Hid (n < (r + 2 ^ j) * (r + 2 ^ j))

theorem bit_step (j : Nat) (b : Int) (hb : b = 2 ^ j / 2) (h : 0 < b) : ∃ i, j = i + 1 ∧ b = 2 ^ i ∧ b / 2 = 2 ^ i / 2 := by
  cases j with
  | zero => simp at hb; omega
  | succ i =>
    have e : (2 : Int) ^ (i + 1) = 2 ^ i * 2 := Int.pow_succ ..
    rw [e] at hb
    have : b = 2 ^ i := by omega
    exact ⟨i, rfl, this, by rw [this]⟩
theorem bit_end (j : Nat) (b : Int) (hb : b = 2 ^ j / 2) (h : ¬ 0 < b) : j = 0 := by
  cases j with
  | zero => rfl
  | succ i =>
    have e : (2 : Int) ^ (i + 1) = 2 ^ i * 2 := Int.pow_succ ..
    have p : (0 : Int) < 2 ^ i := Int.pow_pos (by decide)
    rw [e] at hb
    omega

set_option maxHeartbeats 1000000 in
theorem sqrt_ref (n : Int) (w : World) (h0 : -9223372036854775808 ≤ n) (h1 : n ≤ 9223372036854775807) :
    Calls Tryd.prog 44 #[.int .i64 n] w fun e w' => e = .returned (.int .i64 (isq n)) ∧ w = w' := by
  by_cases hn : n < 0
  · go_enter Tryd.func44, Tryd.ntmps44
    go_wp2
    go_ret
    exact ⟨ret_int (isq_le0 (by omega)).symm, rfl⟩
  · have hst : Hid (n < (0 + 2 ^ 32) * (0 + 2 ^ 32)) := by
      show n < (0 + 2 ^ 32) * (0 + 2 ^ 32)
      have : ((0 : Int) + 2 ^ 32) * (0 + 2 ^ 32) = 18446744073709551616 := by decide
      omega
    go_enter Tryd.func44, Tryd.ntmps44
    go_wp2
    go_loop [3, 4] (BitRel n) (fun _ b => (intOf b).toNat)
    case atStart => exact ⟨32, 0, 2147483648, rfl, rfl, by decide, by decide, by decide, by decide, (by decide : (2147483648 : Int) = 2 ^ 32 / 2), (by omega : (0 : Int) * 0 ≤ n), hst⟩
    case round =>
      obtain ⟨j, r, b, rfl, rfl, r0, b0, hrb, r1, hb, hlo, hhi⟩ := hrel
      by_cases hgo : 0 < b
      · obtain ⟨i, rfl, hbi, hb2⟩ := bit_step j b hb.out hgo
        have p0 : 0 ≤ (r + b) * (r + b) := sq_nonneg _
        have p1 : (r + b) * (r + b) ≤ 18446744065119617025 := by
          have := sq_le (a := r + b) (b := 4294967295) (by omega) (by omega)
          omega
        have HBI := Lib.hid hbi
        have HB2 := Lib.hid hb2
        clear hbi hb2 hb
        by_cases hok : (r + b) * (r + b) ≤ n
        · go_wp2
          go_round
          case rel =>
            refine ⟨i, r + b, b / 2, rfl, rfl, by omega, by omega, by omega, by omega, HB2, hok, ?_⟩
            show n < (r + b + 2 ^ i) * (r + b + 2 ^ i)
            have := hhi.out
            rw [Int.pow_succ] at this
            rw [← HBI.out] at this ⊢
            rwa [show r + b + b = r + b * 2 by omega]
          case measure => simp [intOf]; omega
        · go_wp2
          go_round
          case rel =>
            refine ⟨i, r, b / 2, rfl, rfl, by omega, by omega, by omega, by omega, HB2, hlo, ?_⟩
            show n < (r + 2 ^ i) * (r + 2 ^ i)
            rw [← HBI.out]
            omega
          case measure => simp [intOf]; omega
      · obtain rfl := bit_end j b hb.out hgo
        have hz := hhi.out
        have hres := Lib.hid (isq_of (n := n) (r := r) ⟨r0, hlo.out, by simpa using hz⟩ (by omega))
        clear hz
        go_wp2
        go_ret
        exact ⟨ret_int hres.out.symm, rfl⟩

theorem neg_u64 (x : Int) (h0 : -4611686018427387904 ≤ x) (h1 : x < 0) : wrap64 (IntKind.u64.wrap (-IntKind.u64.wrap x)) = -x := by
  rw [IntKind.wrap_u64, IntKind.wrap_u64]
  unfold wrap64
  omega
theorem sub_ref0 (x : Int) (w : World) (h0 : -4611686018427387904 ≤ x) (h1 : x < 0) :
    Calls Tryd.prog 70 #[.int .i64 0, .int .i64 x] w fun e w' => e = .returned (.int .i64 (-x)) ∧ w = w' := by
  have g1 : decide (x < 0) = true := by simp; omega
  have g2 := neg_u64 x h0 h1
  have g3 : decide (-x < 0) = false := by simp; omega
  go_enter Tryd.func70, Tryd.ntmps70
  go_wp2
  go_ret
  exact ⟨ret_int (neg_u64 x h0 h1), rfl⟩
theorem abs_ref (x : Int) (w : World) (h0 : -4611686018427387904 ≤ x) (h1 : x ≤ 9223372036854775807) :
    Calls Tryd.prog 43 #[.int .i64 x] w fun e w' => e = .returned (.int .i64 (absI x)) ∧ w = w' := by
  by_cases h : x < 0
  · go_enter Tryd.func43, Tryd.ntmps43
    go_wp2_with (go_at_call 70; refine (sub_ref0 _ _ h0 h).mono ?_; rintro e w' ⟨rfl, rfl⟩)
    go_ret
    exact ⟨ret_int (absI_neg h).symm, rfl⟩
  · go_enter Tryd.func43, Tryd.ntmps43
    go_wp2
    go_ret
    exact ⟨ret_int (absI_pos (by omega)).symm, rfl⟩
theorem hypot_ref (x y : Int) (w : World) (h0 : -1073741824 ≤ x) (h1 : x ≤ 1073741824) (h2 : -1073741824 ≤ y) (h3 : y ≤ 1073741824) :
    Calls Tryd.prog 54 #[.int .i64 x, .int .i64 y] w (HypPost x y w) := by
  obtain ⟨a0, a1⟩ := hyp_bd h0 h1
  obtain ⟨b0, b1⟩ := hyp_bd h2 h3
  go_enter Tryd.func54, Tryd.ntmps54
  go_wp2_with (first
    | (go_at_call 71; refine (outside_ref _ _ (by omega) (by omega)).mono ?_; rintro e w' ⟨rfl, rfl⟩)
    | (go_at_call 44; refine (sqrt_ref _ _ (by omega) (by omega)).mono ?_; rintro e w' ⟨rfl, rfl⟩))
  go_ret2
  exact ⟨rfl, rfl⟩
end Go.Proofs.YtdfpbojlimeccaaDoor
