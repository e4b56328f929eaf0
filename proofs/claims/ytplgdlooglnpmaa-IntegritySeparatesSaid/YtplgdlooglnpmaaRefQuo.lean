/-
  The walks of the reference's Sign and Cmp of layer 2, and what its quotient meets.
-/
import Derived.Test.YtplgdlooglnpmaaRefDivW
namespace Go.Proofs.Ytplgdlooglnpmaa
set_option linter.unusedVariables false
open Go.RowKit

set_option maxHeartbeats 4000000 in
set_option maxRecDepth 100000 in
theorem rcmp_pos (d : Int) (w : World) (h0 : 0 < d) (h1 : d < 9223372036854775808) :
    Calls Try.prog 111 #[.agg #[.int .i64 0, .int .u64 d], .agg #[.int .i64 0, .int .u64 0]] w fun e w' => e = .returned (.int .i64 1) ∧ Below w.heap.size w w' := by
  have g1 : decide (d < 0) = false := by simp; omega
  have g2 : (d == 0) = false := by simp; omega
  have g3 : ¬ d = 0 := by omega
  go_enter Try.func111, Try.ntmps111
  go_wp2
  go_ret
  exact ⟨rfl, ((Below.refl _ _).alloc (Nat.le_refl _) _).alloc (by simp) _⟩
set_option maxHeartbeats 4000000 in
set_option maxRecDepth 100000 in
theorem rsign_pos (d : Int) (w : World) (h0 : 0 < d) (h1 : d < 9223372036854775808) :
    Calls Try.prog 104 #[.agg #[.int .i64 0, .int .u64 d]] w fun e w' => e = .returned (.int .i64 1) ∧ Below w.heap.size w w' := by
  have CM := Lib.hid fun w => rcmp_pos d w h0 h1
  clear h0 h1
  have KX := Lib.hid (Blk.of (vs := #[.int .i64 0, .int .u64 d]) (t := 51) (w := w) (b := w.heap.size) (by simp))
  have HB := Lib.hid ((Below.refl w.heap.size w).alloc (by simp; try omega) (.cells #[.int .i64 0, .int .u64 d] 51))
  go_enter Try.func104, Try.ntmps104
  go_wp2_with fail
  generalize w.alloc (.cells #[.int .i64 0, .int .u64 d] 51) = w0 at *
  refine (CM.out _).mono ?_
  rintro e1 w1 ⟨rfl, hb1⟩
  replace HB := Lib.hid (HB.out.trans (hb1.mono HB.out.size))
  replace KX := Lib.hid (KX.out.below hb1)
  clear hb1
  go_wp2
  go_ret
  exact ⟨rfl, HB.out⟩
/-- what the walk of quotient meets -/
structure QuoW (x d q r : Int) : Prop where
  sg : ∀ w, Calls Try.prog 104 #[.agg #[.int .i64 0, .int .u64 d]] w fun e w' => e = .returned (.int .i64 1) ∧ Below w.heap.size w w'
  sx : ∀ w, Calls Try.prog 105 #[.agg #[.int .i64 (hiW x), .int .u64 (loW x)]] w fun e w' => e = .returned (.tuple #[.int .u64 (hiW (absW x)), .int .u64 (loW (absW x))]) ∧ Below w.heap.size w w'
  sy : ∀ w, Calls Try.prog 105 #[.agg #[.int .i64 0, .int .u64 d]] w fun e w' => e = .returned (.tuple #[.int .u64 0, .int .u64 d]) ∧ Below w.heap.size w w'
  dv : ∀ w, Calls Try.prog 106 #[.int .u64 (hiW (absW x)), .int .u64 (loW (absW x)), .int .u64 0, .int .u64 d] w fun e w' => e = .returned (.tuple #[.int .u64 (hiW q), .int .u64 (loW q), .int .u64 0, .int .u64 r]) ∧ Below w.heap.size w w'
theorem small_words {d : Int} (h0 : 0 ≤ d) (h1 : d < 9223372036854775808) : hiW d = 0 ∧ loW d = d := by unfold hiW loW; omega
theorem quo_world {x d q r : Int} (hx0 : -85070591730234615865843651857942052864 < x) (hx : x < 85070591730234615865843651857942052864) (hd : 0 < d) (hd1 : d < 9223372036854775808) (hq : q = absW x / d) (hr : r = absW x % d) : QuoW x d q r := by
  have ax0 := absW_nonneg x
  have ax1 : absW x < 85070591730234615865843651857942052864 := by unfold absW; split <;> omega
  have ad : absW d = d := by unfold absW; rw [if_neg (by omega)]
  obtain ⟨w0, w1⟩ := small_words (d := d) (by omega) hd1
  have hr0 : 0 ≤ r := by rw [hr]; exact Int.emod_nonneg _ (by omega)
  have hr1 : r < d := by rw [hr]; exact Int.emod_lt_of_pos _ hd
  obtain ⟨v0, v1⟩ := small_words (d := r) hr0 (by omega)
  refine ⟨fun w => rsign_pos d w hd hd1, fun w => rsize_any x w ⟨by omega, by omega⟩, fun w => ?_, fun w => ?_⟩
  · have := rsize_any d w ⟨by omega, by omega⟩
    unfold wv at this
    rw [ad, w0, w1] at this
    exact this
  · obtain ⟨N, hN⟩ := Int.eq_ofNat_of_zero_le ax0
    obtain ⟨D, rfl⟩ := Int.eq_ofNat_of_zero_le (show 0 ≤ d by omega)
    have := rdivide_any N D w (by omega) (by omega) (by omega)
    rw [Int.natCast_ediv, Int.natCast_emod, ← hN, ← hq, ← hr, v0, v1, w0, w1] at this
    exact this.mono fun e w' ⟨a, b⟩ => ⟨a, by rw [← b]; exact Below.refl _ _⟩
end Go.Proofs.Ytplgdlooglnpmaa
