/-
  The walk of the reference's root.
-/
import Derived.Test.YtnaokohffelklaaDoorSqrtWalks30
namespace Go.Proofs.YtnaokohffelklaaDoor
set_option linter.unusedVariables false
open Go.RowKit Sq

def BitRel (n : Int) (s3 s4 : Value) : Prop := ∃ (j : Nat) (r b : Int), s3 = .int .u64 r ∧ s4 = .int .u64 b ∧ 0 ≤ r ∧ 0 ≤ b ∧ r + 2 * b ≤ 4294967296 ∧ r ≤ 4294967295 ∧ Hid (b = 2 ^ j / 2) ∧ Hid (r * r ≤ n) ∧ Hid (n < (r + 2 ^ j) * (r + 2 ^ j))

theorem bit_step (j : Nat) (b : Int) (hb : b = 2 ^ j / 2) (h : 0 < b) : ∃ i, j = i + 1 ∧ b = 2 ^ i ∧ b / 2 = 2 ^ i / 2 := by
  cases j with
  | zero => simp at hb; omega
  | succ i =>
    have e : (2 : Int) ^ (i + 1) = 2 ^ i * 2 := Int.pow_succ ..
    rw [e] at hb
    have : b = 2 ^ i := by omega
    exact ⟨i, rfl, this, by rw [this]⟩
theorem bit_end (j : Nat) (b : Int) (hb : b = 2 ^ j / 2) (h : ¬ 0 < b) : j = 0 := by
  cases j with
  | zero => rfl
  | succ i =>
    have e : (2 : Int) ^ (i + 1) = 2 ^ i * 2 := Int.pow_succ ..
    have p : (0 : Int) < 2 ^ i := Int.pow_pos (by decide)
    rw [e] at hb
    omega

set_option maxHeartbeats 1000000 in
theorem sqrt_ref (n : Int) (w : World) (h0 : -9223372036854775808 ≤ n) (h1 : n ≤ 9223372036854775807) :
    Calls Tryd.prog 55 #[.int .i64 n] w fun e w' => e = .returned (.int .i64 (isq n)) ∧ w = w' := by
  by_cases hn : n < 0
  · go_enter Tryd.func55, Tryd.ntmps55
    go_wp2
    go_ret
    exact ⟨ret_int (isq_le0 (by omega)).symm, rfl⟩
  · have hst : Hid (n < (0 + 2 ^ 32) * (0 + 2 ^ 32)) := by
      show n < (0 + 2 ^ 32) * (0 + 2 ^ 32)
      have : ((0 : Int) + 2 ^ 32) * (0 + 2 ^ 32) = 18446744073709551616 := by decide
      omega
    go_enter Tryd.func55, Tryd.ntmps55
    go_wp2
    go_loop [3, 4] (BitRel n) (fun _ b => (intOf b).toNat)
    case atStart => exact ⟨32, 0, 2147483648, rfl, rfl, by decide, by decide, by decide, by decide, (by decide : (2147483648 : Int) = 2 ^ 32 / 2), (by omega : (0 : Int) * 0 ≤ n), hst⟩
    case round =>
      obtain ⟨j, r, b, rfl, rfl, r0, b0, hrb, r1, hb, hlo, hhi⟩ := hrel
      by_cases hgo : 0 < b
      · obtain ⟨i, rfl, hbi, hb2⟩ := bit_step j b hb.out hgo
        have p0 : 0 ≤ (r + b) * (r + b) := sq_nonneg _
        have p1 : (r + b) * (r + b) ≤ 18446744065119617025 := by
          have := sq_le (a := r + b) (b := 4294967295) (by omega) (by omega)
          omega
        have HBI := Lib.hid hbi
        have HB2 := Lib.hid hb2
        clear hbi hb2 hb
        by_cases hok : (r + b) * (r + b) ≤ n
        · go_wp2
          go_round
          case rel =>
            refine ⟨i, r + b, b / 2, rfl, rfl, by omega, by omega, by omega, by omega, HB2, hok, ?_⟩
            show n < (r + b + 2 ^ i) * (r + b + 2 ^ i)
            have := hhi.out
            rw [Int.pow_succ] at this
            rw [← HBI.out] at this ⊢
            rwa [show r + b + b = r + b * 2 by omega]
          case measure => simp [intOf]; omega
        · go_wp2
          go_round
          case rel =>
            refine ⟨i, r, b / 2, rfl, rfl, by omega, by omega, by omega, by omega, HB2, hlo, ?_⟩
            show n < (r + 2 ^ i) * (r + 2 ^ i)
            rw [← HBI.out]
            omega
          case measure => simp [intOf]; omega
      · obtain rfl := bit_end j b hb.out hgo
        have hz := hhi.out
        have hres := Lib.hid (isq_of (n := n) (r := r) ⟨r0, hlo.out, by simpa using hz⟩ (by omega))
        clear hz
        go_wp2
        go_ret
        exact ⟨ret_int hres.out.symm, rfl⟩
end Go.Proofs.YtnaokohffelklaaDoor
