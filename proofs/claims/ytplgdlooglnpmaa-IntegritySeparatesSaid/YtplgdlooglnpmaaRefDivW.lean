/-
  The walk of the reference's divide of layer 2.
-/
import Derived.Test.YtplgdlooglnpmaaRefW3
import Derived.Test.YtplgdlooglnpmaaWideFour
namespace Go.Proofs.Ytplgdlooglnpmaa
set_option linter.unusedVariables false
open Go.RowKit

/-- what is left of the dividend, shifted up -/
def shM (N k : Nat) : Nat := N % 2 ^ k * 2 ^ (128 - k)
theorem sh_start {N : Nat} (h : N < 340282366920938463463374607431768211456) : shM N 128 = N := by
  unfold shM
  rw [Nat.mod_eq_of_lt (by omega), show 128 - 128 = 0 by rfl]
  omega
theorem sh_parts (N k : Nat) (h : k < 128) : ∃ p e : Nat, 0 < p ∧ 0 < e ∧ p * e = 170141183460469231731687303715884105728 ∧ shM N (k + 1) = (N % p + p * (N / p % 2)) * e ∧ shM N k = N % p * (2 * e) ∧ bD N k = N / p % 2 := by
  refine ⟨2 ^ k, 2 ^ (127 - k), Nat.pow_pos (by decide), Nat.pow_pos (by decide), ?_, ?_, ?_, rfl⟩
  · rw [← Nat.pow_add, show k + (127 - k) = 127 by omega]
  · unfold shM
    rw [Nat.pow_succ, Nat.mod_mul, show 128 - (k + 1) = 127 - k by omega]
  · unfold shM
    rw [show 128 - k = (127 - k) + 1 by omega, Nat.pow_succ, Nat.mul_comm 2]
theorem sh_top {N k : Nat} (h : k < 128) : shM N (k + 1) / 170141183460469231731687303715884105728 = bD N k ∧ 2 * shM N (k + 1) % 340282366920938463463374607431768211456 = shM N k ∧ shM N (k + 1) < 340282366920938463463374607431768211456 := by
  obtain ⟨p, e, hp, he, hpe, h1, h2, h3⟩ := sh_parts N k h
  have hr := Nat.mod_lt N hp
  have hb : N / p % 2 < 2 := Nat.mod_lt _ (by decide)
  rw [h1, h2, h3, show (340282366920938463463374607431768211456 : Nat) = 2 * (p * e) by rw [hpe], ← hpe]
  generalize N % p = r at *
  generalize N / p % 2 = b at *
  refine ⟨?_, ?_, ?_⟩
  · rw [Nat.mul_div_mul_right _ _ he, Nat.add_mul_div_left _ _ hp, Nat.div_eq_of_lt hr, Nat.zero_add]
  · rw [Nat.mul_mod_mul_left, Nat.mul_mod_mul_right, Nat.add_mul_mod_self_left, Nat.mod_eq_of_lt hr, ← Nat.mul_assoc, Nat.mul_comm 2 r, Nat.mul_assoc]
  · have : r + p * b < 2 * p := by
      have : p * b ≤ p * 1 := Nat.mul_le_mul_left _ (by omega)
      omega
    calc (r + p * b) * e < 2 * p * e := Nat.mul_lt_mul_of_pos_right this he
      _ = 2 * (p * e) := Nat.mul_assoc _ _ _
theorem tw_top {M : Int} (h0 : 0 ≤ M) (h1 : M < 340282366920938463463374607431768211456) : bits .or .u64 (IntKind.u64.wrap (hiW M * 2)) (loW M / 9223372036854775808) = hiW ((2 * M) % 340282366920938463463374607431768211456) := by
  have a0 : 0 ≤ hiW M := by unfold hiW; omega
  have a1 : hiW M < 18446744073709551616 := by unfold hiW; omega
  obtain ⟨c0, c1⟩ := lo_rng M
  rw [or_word a0 a1 (by omega) (by omega)]
  unfold hiW loW at *
  omega
theorem tw_toplo {M : Int} (h0 : 0 ≤ M) : IntKind.u64.wrap (loW M * 2) = loW ((2 * M) % 340282366920938463463374607431768211456) := by
  rw [IntKind.wrap_u64]
  unfold loW
  omega
/-- one step of the reference's division -/
structure RdStep (M M' R Q b R' Q' D : Int) : Prop where
  m0 : bits .or .u64 (IntKind.u64.wrap (hiW M * 2)) (loW M / 9223372036854775808) = hiW M'
  m1 : IntKind.u64.wrap (loW M * 2) = loW M'
  r0 : bits .or .u64 (IntKind.u64.wrap (hiW R * 2)) (loW R / 9223372036854775808) = hiW (2 * R + b)
  r1 : bits .or .u64 (IntKind.u64.wrap (loW R * 2)) (hiW M / 9223372036854775808) = loW (2 * R + b)
  q0 : bits .or .u64 (IntKind.u64.wrap (hiW Q * 2)) (loW Q / 9223372036854775808) = hiW (2 * Q)
  q1 : IntKind.u64.wrap (loW Q * 2) = loW (2 * Q)
  q2 : bits .or .u64 (loW (2 * Q)) 1 = loW (2 * Q + 1)
  q3 : hiW (2 * Q) = hiW (2 * Q + 1)
  go : (D ≤ 2 * R + b ∧ Q' = 2 * Q + 1 ∧ R' = 2 * R + b - D) ∨ (2 * R + b < D ∧ Q' = 2 * Q ∧ R' = 2 * R + b)
  rr : 0 ≤ 2 * R + b
  ru : 2 * R + b < 340282366920938463463374607431768211456
theorem rd_step {N D k : Nat} (hN : N < 340282366920938463463374607431768211456) (hD : 0 < D) (hD1 : D ≤ 170141183460469231731687303715884105728) (hk : k < 128) :
    RdStep (shM N (k + 1) : Nat) (shM N k : Nat) (rD N D (k + 1) : Nat) (qD N D (k + 1) : Nat) (bD N k : Nat) (rD N D k : Nat) (qD N D k : Nat) D := by
  obtain ⟨R, Q, b, R', Q', rfl, rfl, rfl, rfl, rfl, r0, r1, q0, q1, b0, b1, d0, d1, fin⟩ := ov_step (i := k) hN hD hD1
  obtain ⟨s1, s2, s3⟩ := sh_top (N := N) hk
  have e1 : ((shM N k : Nat) : Int) = (2 * ((shM N (k + 1) : Nat) : Int)) % 340282366920938463463374607431768211456 := by omega
  have e2 : hiW ((shM N (k + 1) : Nat) : Int) / 9223372036854775808 = (bD N k : Nat) := by unfold hiW; omega
  refine ⟨by rw [e1]; exact tw_top (by omega) (by omega), by rw [e1]; exact tw_toplo (by omega), tw_hi r0 r1 b0 b1, by rw [e2]; exact tw_lo r0 b0 b1, ?_, ?_, or1_u64 q0, hi_odd q0, fin, by omega, by omega⟩
  · have := tw_hi (b := 0) q0 q1 (by omega) (by omega)
    rwa [Int.add_zero] at this
  · rw [IntKind.wrap_u64]; unfold loW; omega
def RdR (N D : Nat) (w : World) (u0 u1 u8 u9 u10 u11 u12 : Value) (wr : World) : Prop := ∃ k : Nat, k ≤ 128 ∧ u0 = .int .u64 (hiW (shM N k : Nat)) ∧ u1 = .int .u64 (loW (shM N k : Nat)) ∧ u8 = .int .u64 (hiW (qD N D k : Nat)) ∧ u9 = .int .u64 (loW (qD N D k : Nat)) ∧
  u10 = .int .u64 (hiW (rD N D k : Nat)) ∧ u11 = .int .u64 (loW (rD N D k : Nat)) ∧ (∃ z : Int, u12 = .int .i64 z ∧ Hid (z = 128 - (k : Int))) ∧ w = wr
set_option maxHeartbeats 8000000 in
set_option maxRecDepth 100000 in
theorem rdivide_any (N D : Nat) (w : World) (hN : N < 340282366920938463463374607431768211456) (hD : 0 < D) (hD1 : D ≤ 170141183460469231731687303715884105728) :
    Calls Try.prog 106 #[.int .u64 (hiW (N : Int)), .int .u64 (loW (N : Int)), .int .u64 (hiW (D : Int)), .int .u64 (loW (D : Int))] w fun e w' => e = .returned (.tuple #[.int .u64 (hiW (N / D : Nat)), .int .u64 (loW (N / D : Nat)), .int .u64 (hiW (N % D : Nat)), .int .u64 (loW (N % D : Nat))]) ∧ w = w' := by
  obtain ⟨t0, t1⟩ := qr_top (D := D) hN
  obtain ⟨n0, n1⟩ := qr_end N D
  have HS := Lib.hid (sh_start hN)
  have ST := Lib.hid fun k hk => rd_step (k := k) hN hD hD1 hk
  have HE0 := Lib.hid n0
  have HE1 := Lib.hid n1
  clear n0 n1 hN hD hD1
  go_enter Try.func106, Try.ntmps106
  go_wp2
  go_loopw [0, 1, 8, 9, 10, 11, 12] (RdR N D w) (fun _ _ _ _ _ _ v _ => (128 - intOf v).toNat)
  case atStart => exact ⟨128, Nat.le_refl _, by rw [HS.out], by rw [HS.out], by rw [t0]; rfl, by rw [t0]; rfl, by rw [t1]; rfl, by rw [t1]; rfl, ⟨0, rfl, Lib.hid (by rfl)⟩, rfl⟩
  case round =>
    clear t0 t1
    obtain ⟨k, hk, rfl, rfl, rfl, rfl, rfl, rfl, ⟨z, rfl, HZ⟩, rfl⟩ := hrel
    cases k with
    | zero =>
      have g : decide (z < 128) = false := by have := HZ.out; simp; omega
      rw [HE0.out, HE1.out]
      go_wp2
      refine bodyPost_ret (v := .tuple #[.int .u64 (hiW (N / D : Nat)), .int .u64 (loW (N / D : Nat)), .int .u64 (hiW (N % D : Nat)), .int .u64 (loW (N % D : Nat))]) (by simp [results, Try.results106, go_sem]) rfl ⟨rfl, rfl⟩
    | succ k =>
      have hz : z = 127 - (k : Int) := by have := HZ.out; omega
      have g : decide (z < 128) = true := by simp; omega
      have z0 : 0 ≤ z := by omega
      have S := ST.out k (by omega)
      clear HZ ST HE0 HE1 HS
      generalize ((shM N (k + 1) : Nat) : Int) = M at *
      generalize ((rD N D (k + 1) : Nat) : Int) = R at *
      generalize ((qD N D (k + 1) : Nat) : Int) = Q at *
      generalize ((bD N k : Nat) : Int) = b at *
      obtain ⟨s0, s1, s2, s3, s4, s5, s6, s7, fin, s9, s10⟩ := S
      obtain ⟨M', hM⟩ : ∃ e, ((shM N k : Nat) : Int) = e := ⟨_, rfl⟩
      obtain ⟨R', hR⟩ : ∃ e, ((rD N D k : Nat) : Int) = e := ⟨_, rfl⟩
      obtain ⟨Q', hQ⟩ : ∃ e, ((qD N D k : Nat) : Int) = e := ⟨_, rfl⟩
      rw [hM] at s0 s1
      rw [hR, hQ] at fin
      have HM := Lib.hid hM
      have HR := Lib.hid hR
      have HQ := Lib.hid hQ
      clear hM hR hQ
      have dn : (0 : Int) ≤ (D : Int) := by omega
      generalize (D : Int) = d at *
      have S7 := Lib.hid s7
      clear s7
      have l0 := lo_rng (2 * R + b)
      have l1 := lo_rng d
      have hr0 : 0 ≤ hiW (2 * R + b) := by unfold hiW; omega
      have hd0 : 0 ≤ hiW d := by unfold hiW; omega
      rcases fin with ⟨f0, f1, f2⟩ | ⟨f0, f1, f2⟩
      · have R9 := Lib.hid f2
        have Q9 := Lib.hid f1
        have L : IntKind.u64.wrap (loW (2 * R + b) - loW d) = loW R' := by rw [f2, IntKind.wrap_u64]; unfold loW; omega
        rcases Int.lt_trichotomy (hiW (2 * R + b)) (hiW d) with c | c | c
        · exfalso; unfold hiW at c; omega
        · have g1 : decide (hiW d < hiW (2 * R + b)) = false := by simp; omega
          have g2 : (hiW (2 * R + b) == hiW d) = true := by simpa using c
          have g3 : decide (loW d ≤ loW (2 * R + b)) = true := by simp; unfold hiW loW at *; omega
          have g4 : decide (loW (2 * R + b) < loW d) = false := by simp; unfold hiW loW at *; omega
          have H : IntKind.u64.wrap (hiW (2 * R + b) - hiW d) = hiW R' := by rw [f2, IntKind.wrap_u64]; unfold hiW loW at *; omega
          clear f0 f1 f2 c l0 l1 s9 s10 hr0 hd0 dn
          generalize hiW (2 * R + b) = rh at *
          generalize loW (2 * R + b) = rl at *
          go_wp2
          exact ⟨⟨k, by omega, by rw [HM.out], by rw [HM.out], by rw [HQ.out, Q9.out, S7.out], by rw [HQ.out, Q9.out], by rw [HR.out], by rw [HR.out], ⟨_, rfl, Lib.hid (by omega)⟩, rfl⟩, by simp [intOf]; omega⟩
        · have g1 : decide (hiW d < hiW (2 * R + b)) = true := by simpa using c
          by_cases bo : loW (2 * R + b) < loW d
          · have g4 : decide (loW (2 * R + b) < loW d) = true := by simpa using bo
            have H : IntKind.u64.wrap (IntKind.u64.wrap (hiW (2 * R + b) - hiW d) - 1) = hiW R' := by rw [f2, IntKind.wrap_u64, IntKind.wrap_u64]; unfold hiW loW at *; omega
            clear f0 f1 f2 c bo l0 l1 s9 s10 hr0 hd0 dn
            generalize hiW (2 * R + b) = rh at *
            generalize loW (2 * R + b) = rl at *
            obtain ⟨x, hx⟩ : ∃ e, IntKind.u64.wrap (rh - hiW d) = e := ⟨_, rfl⟩
            rw [hx] at H
            go_wp2
            exact ⟨⟨k, by omega, by rw [HM.out], by rw [HM.out], by rw [HQ.out, Q9.out, S7.out], by rw [HQ.out, Q9.out], by rw [HR.out], by rw [HR.out], ⟨_, rfl, Lib.hid (by omega)⟩, rfl⟩, by simp [intOf]; omega⟩
          · have g4 : decide (loW (2 * R + b) < loW d) = false := by simpa using bo
            have H : IntKind.u64.wrap (hiW (2 * R + b) - hiW d) = hiW R' := by rw [f2, IntKind.wrap_u64]; unfold hiW loW at *; omega
            clear f0 f1 f2 c bo l0 l1 s9 s10 hr0 hd0 dn
            generalize hiW (2 * R + b) = rh at *
            generalize loW (2 * R + b) = rl at *
            go_wp2
            exact ⟨⟨k, by omega, by rw [HM.out], by rw [HM.out], by rw [HQ.out, Q9.out, S7.out], by rw [HQ.out, Q9.out], by rw [HR.out], by rw [HR.out], ⟨_, rfl, Lib.hid (by omega)⟩, rfl⟩, by simp [intOf]; omega⟩
      · have R9 := Lib.hid f2
        have Q9 := Lib.hid f1
        rcases Int.lt_trichotomy (hiW (2 * R + b)) (hiW d) with c | c | c
        · have g1 : decide (hiW d < hiW (2 * R + b)) = false := by simp; omega
          have g2 : (hiW (2 * R + b) == hiW d) = false := by simp; omega
          clear f0 f1 f2 c l0 l1 s9 s10 hr0 hd0 dn
          go_wp2
          exact ⟨⟨k, by omega, by rw [HM.out], by rw [HM.out], by rw [HQ.out, Q9.out], by rw [HQ.out, Q9.out], by rw [HR.out, R9.out], by rw [HR.out, R9.out], ⟨_, rfl, Lib.hid (by omega)⟩, rfl⟩, by simp [intOf]; omega⟩
        · have g1 : decide (hiW d < hiW (2 * R + b)) = false := by simp; omega
          have g2 : (hiW (2 * R + b) == hiW d) = true := by simpa using c
          have g3 : decide (loW d ≤ loW (2 * R + b)) = false := by simp; unfold hiW loW at *; omega
          clear f0 f1 f2 c l0 l1 s9 s10 hr0 hd0 dn
          go_wp2
          exact ⟨⟨k, by omega, by rw [HM.out], by rw [HM.out], by rw [HQ.out, Q9.out], by rw [HQ.out, Q9.out], by rw [HR.out, R9.out], by rw [HR.out, R9.out], ⟨_, rfl, Lib.hid (by omega)⟩, rfl⟩, by simp [intOf]; omega⟩
        · exfalso; unfold hiW at c; omega
end Go.Proofs.Ytplgdlooglnpmaa
