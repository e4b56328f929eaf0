/-
  The walks of the sizes of layer 2: split, zero, cmp, twice, less.
-/
import Derived.Test.YtplgdlooglnpmaaWideTwo
import Derived.Test.YtplgdlooglnpmaaWideDivPlain
namespace Go.Proofs.Ytplgdlooglnpmaa
set_option linter.unusedVariables false
open Go.RowKit

/-- the value of a size -/
def usz (n : Int) : Value := .agg #[.int .u64 (hiW n), .int .u64 (loW n)]
theorem retb {a b : Bool} (h : a = b) : Ending.returned (.bool a) = .returned (.bool b) := by rw [h]
set_option maxHeartbeats 4000000 in
theorem wsplit_any (x : Int) (w : World) (h : FitW x) :
    Calls Try.prog 99 #[wv x] w fun e w' => e = .returned (.tuple #[usz (absW x), .bool (decide (x < 0))]) ∧ Below w.heap.size w w' := by
  obtain ⟨b0, b1⟩ := lo_rng x
  obtain ⟨a0, a1⟩ := hi_rng h
  unfold wv usz
  by_cases q : x < 0
  · have g : decide (0 ≤ hiW x) = false := by have := (hi_neg x).2 q; simp; omega
    have g' : decide (hiW x < 0) = true := by have := (hi_neg x).2 q; simp; omega
    have EX : decide (x < 0) = true := by simpa using q
    have S1 := fun w => sub64 0 (loW x) 0 (by omega) b0 b1 (by omega) (by omega) w
    have S2 := fun w => sub64 0 (IntKind.u64.wrap (hiW x)) (bor 0 (loW x) 0) (by omega) (by rw [IntKind.wrap_u64]; omega) (by rw [IntKind.wrap_u64]; omega) (bor_rng _ _ _).1 (bor_rng _ _ _).2 w
    have E1 : (0 - loW x - 0) % 18446744073709551616 = loW (absW x) := by unfold absW loW; split <;> omega
    have E2 : (0 - IntKind.u64.wrap (hiW x) - bor 0 (loW x) 0) % 18446744073709551616 = hiW (absW x) := by
      obtain ⟨f0, f1⟩ := h
      rw [IntKind.wrap_u64]
      unfold bor hiW loW absW
      split <;> (try split) <;> omega
    rw [E1] at S1
    rw [E2] at S2
    rw [EX]
    generalize bor 0 (loW x) 0 = bo at *
    clear E1 E2 EX h q
    generalize absW x = r at *
    go_enter Try.func99, Try.ntmps99
    go_wp2_with (first | simp only [S1] | simp only [S2])
    refine bodyPost_ret (v := .tuple #[.agg #[.int .u64 (hiW r), .int .u64 (loW r)], .bool true]) (by simp [results, Try.results99, go_sem]) rfl ⟨rfl, ?_⟩
    exact ((Below.refl _ _).alloc (Nat.le_refl _) _).alloc (by simp) _
  · have g : decide (0 ≤ hiW x) = true := by have := hi_neg x; simp; omega
    have g' : decide (hiW x < 0) = false := by have := hi_neg x; simp; omega
    have EX : decide (x < 0) = false := by simpa using q
    have EA : absW x = x := by unfold absW; rw [if_neg q]
    have E1 : IntKind.u64.wrap (hiW x) = hiW x := by have := hi_neg x; rw [IntKind.wrap_u64]; omega
    rw [EX, EA]
    clear EX EA h q
    go_enter Try.func99, Try.ntmps99
    go_wp2
    refine bodyPost_ret (v := .tuple #[.agg #[.int .u64 (hiW x), .int .u64 (loW x)], .bool false]) (by simp [results, Try.results99, go_sem]) rfl ⟨rfl, ?_⟩
    exact ((Below.refl _ _).alloc (Nat.le_refl _) _).alloc (by simp) _
set_option maxHeartbeats 4000000 in
theorem wzero_any (n : Int) (w : World) :
    Calls Try.prog 100 #[usz n] w fun e w' => e = .returned (.bool (decide (n = 0))) ∧ Below w.heap.size w w' := by
  unfold usz
  by_cases h : hiW n = 0
  · have g : (hiW n == 0) = true := by simpa using h
    by_cases k : loW n = 0
    · have g' : (loW n == 0) = true := by simpa using k
      have E := Lib.hid (show decide (n = 0) = true by unfold hiW loW at *; simp; omega)
      clear h k
      go_enter Try.func100, Try.ntmps100
      go_wp2
      go_ret
      exact ⟨retb E.out.symm, (Below.refl _ _).alloc (Nat.le_refl _) _⟩
    · have g' : (loW n == 0) = false := by simpa using k
      have E := Lib.hid (show decide (n = 0) = false by unfold hiW loW at *; simp; omega)
      clear h k
      go_enter Try.func100, Try.ntmps100
      go_wp2
      go_ret
      exact ⟨retb E.out.symm, (Below.refl _ _).alloc (Nat.le_refl _) _⟩
  · have g : (hiW n == 0) = false := by simpa using h
    have E := Lib.hid (show decide (n = 0) = false by unfold hiW at *; simp; omega)
    clear h
    go_enter Try.func100, Try.ntmps100
    go_wp2
    go_ret
    exact ⟨retb E.out.symm, (Below.refl _ _).alloc (Nat.le_refl _) _⟩
theorem isnan_u (x : Int) (w : World) : Calls Try.prog 112 #[.int .u64 x] w fun e w' => e = .returned (.bool false) ∧ w = w' := by
  have g : (x == x) = true := by simp
  go_enter Try.func112, Try.ntmps112
  go_wp2
  go_ret
  exact ⟨rfl, rfl⟩
set_option maxHeartbeats 4000000 in
theorem compare_u (x y : Int) (w : World) : Calls Try.prog 110 #[.int .u64 x, .int .u64 y] w fun e w' => e = .returned (.int .i64 (cmpI x y)) ∧ w = w' := by
  rcases Int.lt_trichotomy x y with h | h | h
  · have g : decide (x < y) = true := by simpa using h
    have E := Lib.hid (show cmpI x y = -1 by unfold cmpI; rw [if_pos h])
    clear h
    go_enter Try.func110, Try.ntmps110
    go_wp2_with (go_at_call 112; refine (isnan_u _ _).mono ?_; rintro e w2 ⟨rfl, rfl⟩)
    go_ret
    exact ⟨ret_iw E.out.symm, rfl⟩
  · subst h
    have g : decide (x < x) = false := by simp
    have E := Lib.hid (show cmpI x x = 0 by unfold cmpI; rw [if_neg (by omega), if_neg (by omega)])
    go_enter Try.func110, Try.ntmps110
    go_wp2_with (go_at_call 112; refine (isnan_u _ _).mono ?_; rintro e w2 ⟨rfl, rfl⟩)
    go_ret
    exact ⟨ret_iw E.out.symm, rfl⟩
  · have g : decide (x < y) = false := by simp; omega
    have g' : decide (y < x) = true := by simpa using h
    have E := Lib.hid (show cmpI x y = 1 by unfold cmpI; rw [if_neg (by omega), if_pos (by omega)])
    clear h
    go_enter Try.func110, Try.ntmps110
    go_wp2_with (go_at_call 112; refine (isnan_u _ _).mono ?_; rintro e w2 ⟨rfl, rfl⟩)
    go_ret
    exact ⟨ret_iw E.out.symm, rfl⟩
set_option maxHeartbeats 4000000 in
theorem wcmp_any (x y : Int) (w : World) :
    Calls Try.prog 102 #[usz x, usz y] w fun e w' => e = .returned (.int .i64 (cmpI x y)) ∧ Below w.heap.size w w' := by
  unfold usz
  by_cases h : hiW x = hiW y
  · have g : (hiW x == hiW y) = true := by simpa using h
    have g' : (hiW x != hiW y) = false := by simpa using h
    have E := Lib.hid (show cmpI x y = cmpI (loW x) (loW y) by rw [cmp_words, if_pos h])
    have C := Lib.hid fun w => compare_u (loW x) (loW y) w
    generalize cmpI (loW x) (loW y) = c at *
    generalize hiW x = a at *
    generalize hiW y = b at *
    clear h
    go_enter Try.func102, Try.ntmps102
    go_wp2_with (go_at_call 110; refine (C.out _).mono ?_; rintro e w2 ⟨rfl, rfl⟩)
    go_ret
    exact ⟨ret_iw E.out.symm, ((Below.refl _ _).alloc (Nat.le_refl _) _).alloc (by simp) _⟩
  · have g : (hiW x == hiW y) = false := by simpa using h
    have g' : (hiW x != hiW y) = true := by simpa using h
    have E := Lib.hid (show cmpI x y = cmpI (hiW x) (hiW y) by rw [cmp_words, if_neg h])
    have C := Lib.hid fun w => compare_u (hiW x) (hiW y) w
    generalize cmpI (hiW x) (hiW y) = c at *
    generalize hiW x = a at *
    generalize hiW y = b at *
    clear h
    go_enter Try.func102, Try.ntmps102
    go_wp2_with (go_at_call 110; refine (C.out _).mono ?_; rintro e w2 ⟨rfl, rfl⟩)
    go_ret
    exact ⟨ret_iw E.out.symm, ((Below.refl _ _).alloc (Nat.le_refl _) _).alloc (by simp) _⟩
set_option maxHeartbeats 4000000 in
theorem wtwice_any (r b : Int) (w : World) (h0 : 0 ≤ r) (h1 : r < 170141183460469231731687303715884105728) (hb0 : 0 ≤ b) (hb : b < 2) :
    Calls Try.prog 109 #[usz r, .int .u64 b] w fun e w' => e = .returned (usz (2 * r + b)) ∧ Below w.heap.size w w' := by
  have T1 := tw_hi h0 h1 hb0 hb
  have T2 := tw_lo (r := r) h0 hb0 hb
  unfold usz
  generalize hiW (2 * r + b) = c at *
  generalize loW (2 * r + b) = d at *
  go_enter Try.func109, Try.ntmps109
  go_wp2
  refine bodyPost_ret (v := .agg #[.int .u64 c, .int .u64 d]) (by simp [results, Try.results109, go_sem]) rfl ⟨rfl, ?_⟩
  exact ((Below.refl _ _).alloc (Nat.le_refl _) _).alloc (by simp) _
set_option maxHeartbeats 4000000 in
theorem wless_any (s t : Int) (w : World) (h0 : 0 ≤ t) (h1 : t ≤ s) (h2 : s < 340282366920938463463374607431768211456) :
    Calls Try.prog 103 #[usz s, usz t] w fun e w' => e = .returned (usz (s - t)) ∧ Below w.heap.size w w' := by
  obtain ⟨p0, p1⟩ := lo_rng s
  obtain ⟨q0, q1⟩ := lo_rng t
  have S1 := fun w => sub64 (loW s) (loW t) 0 p0 q0 q1 (by omega) (by omega) w
  have S2 := fun w => sub64 (hiW s) (hiW t) (bor (loW s) (loW t) 0) (by unfold hiW; omega) (by unfold hiW; omega) (by unfold hiW; omega) (bor_rng _ _ _).1 (bor_rng _ _ _).2 w
  have E1 := sub_lo s t
  have E2 : (hiW s - hiW t - bor (loW s) (loW t) 0) % 18446744073709551616 = hiW (s - t) := by
    unfold bor hiW loW
    split <;> omega
  rw [E1] at S1
  rw [E2] at S2
  clear E1 E2
  unfold usz
  generalize bor (loW s) (loW t) 0 = bo at *
  generalize hiW (s - t) = c at *
  generalize loW (s - t) = d at *
  go_enter Try.func103, Try.ntmps103
  go_wp2_with (first | simp only [S1] | simp only [S2])
  refine bodyPost_ret (v := .agg #[.int .u64 c, .int .u64 d]) (by simp [results, Try.results103, go_sem]) rfl ⟨rfl, ?_⟩
  exact (((Below.refl _ _).alloc (Nat.le_refl _) _).alloc (by simp) _).alloc (by simp; try omega) _
end Go.Proofs.Ytplgdlooglnpmaa
