/-
  The walks of wide.Of, wide.Sub, wide.Neg and wide.Abs, on numbers that fit.
-/
import Derived.Test.YtplgdlooglnpmaaWideOne
namespace Go.Proofs.Ytplgdlooglnpmaa
set_option linter.unusedVariables false
open Go.RowKit

set_option maxHeartbeats 4000000 in
theorem wof_any (a : Int) (w : World) (h0 : -9223372036854775808 ≤ a) (h1 : a ≤ 9223372036854775807) :
    Calls Try.prog 60 #[.int .i64 a] w fun e w' => e = .returned (wv a) ∧ Below w.heap.size w w' := by
  have E1 : a / 9223372036854775808 = hiW a := by unfold hiW; omega
  have E2 : IntKind.u64.wrap a = loW a := by rw [IntKind.wrap_u64]; rfl
  go_enter Try.func60, Try.ntmps60
  go_wp2
  refine bodyPost_ret (v := .agg #[.int .i64 (hiW a), .int .u64 (loW a)]) (by simp [results, Try.results60, go_sem]) rfl ⟨rfl, ?_⟩
  exact (Below.refl _ _).alloc (Nat.le_refl _) _
theorem sub_hi {x y : Int} (h : FitW (x - y)) :
    IntKind.i64.wrap ((IntKind.u64.wrap (hiW x) - IntKind.u64.wrap (hiW y) - bor (loW x) (loW y) 0) % 18446744073709551616) = hiW (x - y) := by
  obtain ⟨a, b⟩ := h
  rw [IntKind.wrap_u64, IntKind.wrap_u64]
  have e : ∀ z : Int, IntKind.i64.wrap (z % 18446744073709551616) = if 9223372036854775808 ≤ z % 18446744073709551616 then z % 18446744073709551616 - 18446744073709551616 else z % 18446744073709551616 := by
    intro z
    simp [IntKind.wrap, IntKind.bits, IntKind.signed]
  rw [e]
  unfold bor hiW loW
  by_cases c : x % 18446744073709551616 < y % 18446744073709551616 + 0
  · rw [if_pos c]
    split <;> omega
  · rw [if_neg c]
    split <;> omega
theorem sub_lo (x y : Int) : (loW x - loW y - 0) % 18446744073709551616 = loW (x - y) := by unfold loW; omega
set_option maxHeartbeats 4000000 in
set_option maxRecDepth 100000 in
theorem wsub_any (x y : Int) (w : World) (hx : FitW x) (hy : FitW y) (hs : FitW (x - y)) :
    Calls Try.prog 46 #[wv x, wv y] w fun e w' => e = .returned (.tuple #[wv (x - y), .bool true]) ∧ Below w.heap.size w w' := by
  obtain ⟨p0, p1⟩ := lo_rng x
  obtain ⟨q0, q1⟩ := lo_rng y
  have S1 := fun w => sub64 (loW x) (loW y) 0 p0 q0 q1 (by omega) (by omega) w
  have S2 := fun w => sub64 (IntKind.u64.wrap (hiW x)) (IntKind.u64.wrap (hiW y)) (bor (loW x) (loW y) 0) (by rw [IntKind.wrap_u64]; omega) (by rw [IntKind.wrap_u64]; omega) (by rw [IntKind.wrap_u64]; omega) (bor_rng _ _ _).1 (bor_rng _ _ _).2 w
  have E1 := sub_hi hs
  rw [sub_lo x y] at S1
  have C1 : (decide (hiW x < 0) == decide (hiW y < 0)) = true ∨ ((decide (hiW x < 0) == decide (hiW y < 0)) = false ∧ (decide (hiW (x - y) < 0) == decide (hiW x < 0)) = true) := by
    obtain ⟨a, b⟩ := hs
    by_cases h1 : x < 0 <;> by_cases h2 : y < 0 <;> simp [hi_neg, h1, h2] <;> omega
  generalize bor (loW x) (loW y) 0 = c at *
  generalize (IntKind.u64.wrap (hiW x) - IntKind.u64.wrap (hiW y) - c) % 18446744073709551616 = hh at *
  clear hx hy hs
  unfold wv
  rcases C1 with g | ⟨g, g'⟩
  all_goals
    go_enter Try.func46, Try.ntmps46
    go_wp2_with (first | simp only [S1] | simp only [S2])
    refine bodyPost_ret (v := .tuple #[.agg #[.int .i64 (hiW (x - y)), .int .u64 (loW (x - y))], .bool true]) (by simp [results, Try.results46, go_sem]) rfl ⟨rfl, ?_⟩
    exact (((Below.refl _ _).alloc (Nat.le_refl _) _).alloc (by simp) _).alloc (by simp; try omega) _
end Go.Proofs.Ytplgdlooglnpmaa
