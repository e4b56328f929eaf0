/-
  Walks and laws of the layers below, gathered from several texts.
-/
import Derived.Test.YtplgdlooglnpmaaGreatFixPlain
import Derived.Test.YtplgdlooglnpmaaGreatSX1
namespace Go.Proofs.YtplgdlooglnpmaaGreat
set_option linter.unusedVariables false
open Go.RowKit
theorem and_i64 (a : Nat) (h : a < 9223372036854775808) : bits .and .i64 (a : Int) 63 = ((a % 64 : Nat) : Int) := by
  have h1 : (BitVec.ofInt 64 (a : Int)).toNat = a := by
    rw [BitVec.ofInt_natCast, BitVec.toNat_ofNat]; exact Nat.mod_eq_of_lt (by omega)
  have h2 : (BitVec.ofInt 64 (63 : Int)).toNat = 63 := rfl
  show IntKind.i64.wrap ((BitVec.ofInt 64 (a : Int) &&& BitVec.ofInt 64 (63 : Int)).toNat : Int) = _
  rw [BitVec.toNat_and, h1, h2, show (63 : Nat) = 2 ^ 6 - 1 from rfl, Nat.and_two_pow_sub_one_eq_mod]
  exact IntWalk.i64_in _ (by omega)
theorem and1_u64 {x : Int} (h0 : 0 ≤ x) (h1 : x < 18446744073709551616) : bits .and .u64 x 1 = x % 2 := by
  obtain ⟨x, rfl⟩ := Int.eq_ofNat_of_zero_le h0
  have := bits_and_u64_nat x 1 (by omega) (by omega)
  rw [show ((1 : Nat) : Int) = 1 from rfl] at this
  rw [this, Nat.and_one_is_mod]
  rfl
theorem or1_u64 {q : Int} (h0 : 0 ≤ q) : bits .or .u64 (loW (2 * q)) 1 = loW (2 * q + 1) := by
  obtain ⟨c0, c1⟩ := lo_rng q
  have := or_word (x := loW q) (b := 1) c0 c1 (by omega) (by omega)
  rw [show loW (2 * q) = IntKind.u64.wrap (loW q * 2) by rw [IntKind.wrap_u64]; unfold loW; omega, this]
  unfold loW; omega
theorem hi_odd {q : Int} (h0 : 0 ≤ q) : hiW (2 * q) = hiW (2 * q + 1) := by unfold hiW; omega
theorem div_pow {x : Int} {j : Nat} (h0 : 0 ≤ x) (h1 : x < 18446744073709551616) : 0 ≤ x / 2 ^ j ∧ x / 2 ^ j < 18446744073709551616 := by
  have hp : (0 : Int) < 2 ^ j := Int.pow_pos (by decide)
  refine ⟨Int.ediv_nonneg h0 (by omega), ?_⟩
  exact Int.lt_of_le_of_lt (Int.ediv_le_self _ h0) h1
/-- the bit of a size at a place, as the walk reads it -/
theorem bit_low {N j : Nat} (h : j < 64) : bits .and .u64 (loW (N : Int) / 2 ^ j) 1 = (bD N j : Int) := by
  obtain ⟨b0, b1⟩ := lo_rng (N : Int)
  obtain ⟨c0, c1⟩ := div_pow (j := j) b0 b1
  rw [and1_u64 c0 c1, ← bit_lo' h, Int.natCast_pow]
  rfl
theorem bit_high {N j : Nat} (hN : N < 340282366920938463463374607431768211456) : bits .and .u64 (hiW (N : Int) / 2 ^ j) 1 = (bD N (j + 64) : Int) := by
  obtain ⟨c0, c1⟩ := div_pow (x := hiW (N : Int)) (j := j) (by unfold hiW; omega) (by unfold hiW; omega)
  rw [and1_u64 c0 c1, ← bit_hi' (i := j + 64) (by omega), Int.natCast_pow, show j + 64 - 64 = j by omega]
  rfl
def OvR (N D : Nat) (w : World) (v : Value) (wr : World) : Prop := ∃ (k : Nat) (z : Int), v = .int .i64 z ∧ Hid (z = (k : Int) - 1) ∧ k ≤ 128 ∧ Hid (Below w.heap.size w wr) ∧
  Hid (Blk [.int .u64 (hiW N), .int .u64 (loW N)] w.heap.size wr) ∧ Hid (Blk [.int .u64 (hiW D), .int .u64 (loW D)] (w.heap.size + 1) wr) ∧
  Hid (Blk [.int .u64 (hiW (qD N D k : Nat)), .int .u64 (loW (qD N D k : Nat))] (w.heap.size + 1 + 1) wr) ∧ Hid (Blk [.int .u64 (hiW (rD N D k : Nat)), .int .u64 (loW (rD N D k : Nat))] (w.heap.size + 1 + 1 + 1) wr)
theorem below_drew1 {B : Nat} {a w : World} (h : Below B a w) : Below B a w.drew := ⟨h.os, h.tape, h.output, h.size, h.block⟩
theorem ov_step {N D i : Nat} (hN : N < 340282366920938463463374607431768211456) (hD : 0 < D) (hD1 : D ≤ 170141183460469231731687303715884105728) :
    ∃ R Q b R' Q' : Int, R = (rD N D (i + 1) : Nat) ∧ Q = (qD N D (i + 1) : Nat) ∧ b = (bD N i : Nat) ∧ R' = (rD N D i : Nat) ∧ Q' = (qD N D i : Nat) ∧
      0 ≤ R ∧ R < 170141183460469231731687303715884105728 ∧ 0 ≤ Q ∧ Q < 170141183460469231731687303715884105728 ∧ 0 ≤ b ∧ b < 2 ∧ (0 : Int) < D ∧ (D : Int) ≤ 170141183460469231731687303715884105728 ∧
      (((D : Int) ≤ 2 * R + b ∧ Q' = 2 * Q + 1 ∧ R' = 2 * R + b - D) ∨ (2 * R + b < (D : Int) ∧ Q' = 2 * Q ∧ R' = 2 * R + b)) := by
  have BB := bD_lt N i
  have RL := rD_lt N (D := D) (k := i + 1) hD
  have QL := qD_lt (D := D) (k := i) hN
  refine ⟨_, _, _, _, _, rfl, rfl, rfl, rfl, rfl, by omega, by omega, by omega, by omega, by omega, by omega, by omega, by omega, ?_⟩
  by_cases h : D ≤ 2 * rD N D (i + 1) + bD N i
  · have := qr_one hD h
    exact .inl ⟨by omega, by omega, by omega⟩
  · have := qr_zero hD h
    exact .inr ⟨by omega, by omega, by omega⟩
theorem blk_drew1 {vs : List Value} {b : Nat} {W : World} (h : Blk vs b W) : Blk vs b W.drew := h.same rfl (Nat.le_refl _)
set_option maxHeartbeats 8000000 in
set_option maxRecDepth 100000 in
theorem wover_any (N D : Nat) (w : World) (hN : N < 340282366920938463463374607431768211456) (hD : 0 < D) (hD1 : D ≤ 170141183460469231731687303715884105728) :
    Calls Tryz.prog 131 #[usz N, usz D] w fun e w' => e = .returned (.tuple #[usz (N / D : Nat), usz (N % D : Nat)]) ∧ Below w.heap.size w w' := by
  obtain ⟨t0, t1⟩ := qr_top (D := D) hN
  obtain ⟨n0, n1⟩ := qr_end N D
  have HE0 := Lib.hid n0
  have HE1 := Lib.hid n1
  have ST := Lib.hid fun i => ov_step (i := i) hN hD hD1
  have BL := Lib.hid fun i (h : i < 64) => bit_low (N := N) h
  have BH := Lib.hid fun j => bit_high (j := j) hN
  clear n0 n1 hN hD hD1
  unfold usz
  have KS := Lib.hid ((((Blk.of (vs := #[.int .u64 (hiW (N : Int)), .int .u64 (loW (N : Int))]) (t := 108) (w := w) (b := w.heap.size) (by simp)).alloc (.cells #[.int .u64 (hiW (D : Int)), .int .u64 (loW (D : Int))] 108)).alloc (.cells #[.int .u64 0, .int .u64 0] 108)).alloc (.cells #[.int .u64 0, .int .u64 0] 108))
  have KD := Lib.hid (((Blk.of (vs := #[.int .u64 (hiW (D : Int)), .int .u64 (loW (D : Int))]) (t := 108) (w := (w.alloc (.cells #[.int .u64 (hiW (N : Int)), .int .u64 (loW (N : Int))] 108))) (b := w.heap.size + 1) (by simp)).alloc (.cells #[.int .u64 0, .int .u64 0] 108)).alloc (.cells #[.int .u64 0, .int .u64 0] 108))
  have KQ := Lib.hid ((Blk.of (vs := #[.int .u64 0, .int .u64 0]) (t := 108) (w := ((w.alloc (.cells #[.int .u64 (hiW (N : Int)), .int .u64 (loW (N : Int))] 108)).alloc (.cells #[.int .u64 (hiW (D : Int)), .int .u64 (loW (D : Int))] 108))) (b := w.heap.size + 1 + 1) (by simp)).alloc (.cells #[.int .u64 0, .int .u64 0] 108))
  have KR := Lib.hid (Blk.of (vs := #[.int .u64 0, .int .u64 0]) (t := 108) (w := (((w.alloc (.cells #[.int .u64 (hiW (N : Int)), .int .u64 (loW (N : Int))] 108)).alloc (.cells #[.int .u64 (hiW (D : Int)), .int .u64 (loW (D : Int))] 108)).alloc (.cells #[.int .u64 0, .int .u64 0] 108))) (b := w.heap.size + 1 + 1 + 1) (by simp))
  have HB := Lib.hid (((((Below.refl w.heap.size w).alloc (by simp; try omega) (.cells #[.int .u64 (hiW (N : Int)), .int .u64 (loW (N : Int))] 108)).alloc (by simp; try omega) (.cells #[.int .u64 (hiW (D : Int)), .int .u64 (loW (D : Int))] 108)).alloc (by simp; try omega) (.cells #[.int .u64 0, .int .u64 0] 108)).alloc (by simp; try omega) (.cells #[.int .u64 0, .int .u64 0] 108))
  go_enter Tryz.func131, Tryz.ntmps131
  go_wp2
  generalize (((w.alloc (.cells #[.int .u64 (hiW (N : Int)), .int .u64 (loW (N : Int))] 108)).alloc (.cells #[.int .u64 (hiW (D : Int)), .int .u64 (loW (D : Int))] 108)).alloc (.cells #[.int .u64 0, .int .u64 0] 108)).alloc (.cells #[.int .u64 0, .int .u64 0] 108) = w0 at *
  go_loopw [6] (OvR N D w) (fun v _ => (intOf v + 1).toNat)
  case atStart => exact ⟨128, 127, rfl, Lib.hid (by rfl), Nat.le_refl _, HB, KS, KD, by rw [t0]; exact KQ, by rw [t1]; exact KR⟩
  case round =>
    clear t0 t1
    obtain ⟨k, z, rfl, HZ, hk, HB, KS, KD, KQ, KR⟩ := hrel
    cases k with
    | zero =>
      have g : decide (0 ≤ z) = false := by have := HZ.out; simp; omega
      clear HZ
      have VQ : (qD N D 0 : Int) = ((N / D : Nat) : Int) := by rw [HE0.out]
      have VR : (rD N D 0 : Int) = ((N % D : Nat) : Int) := by rw [HE1.out]
      rw [VQ] at KQ
      rw [VR] at KR
      clear VQ VR
      obtain ⟨Q, hQ⟩ : ∃ Q, ((N / D : Nat) : Int) = Q := ⟨_, rfl⟩
      obtain ⟨R, hR⟩ : ∃ R, ((N % D : Nat) : Int) = R := ⟨_, rfl⟩
      rw [hQ] at KQ
      rw [hR] at KR
      have HQ := Lib.hid hQ
      have HR := Lib.hid hR
      clear hQ hR
      have yQ := KQ.out
      have yQ_0 := yQ.c 0 _ rfl
      have yQ_1 := yQ.c 1 _ rfl
      have yQ_z := yQ.lt
      have yQ_f0 := yQ.f 0 _ rfl
      have yQ_f1 := yQ.f 1 _ rfl
      clear yQ
      have yR := KR.out
      have yR_0 := yR.c 0 _ rfl
      have yR_1 := yR.c 1 _ rfl
      have yR_z := yR.lt
      have yR_f0 := yR.f 0 _ rfl
      have yR_f1 := yR.f 1 _ rfl
      clear yR
      go_wp2_with fail
      go_region
      replace KS := Lib.hid (blk_other (b := w.heap.size) (n := (w.heap.size + 1 + 1)) (j := 1) (blk_other (b := w.heap.size) (n := (w.heap.size + 1 + 1)) (j := 0) KS.out (by omega) (.int .u64 (hiW Q))) (by omega) (.int .u64 (loW Q)))
      replace KD := Lib.hid (blk_other (b := (w.heap.size + 1)) (n := (w.heap.size + 1 + 1)) (j := 1) (blk_other (b := (w.heap.size + 1)) (n := (w.heap.size + 1 + 1)) (j := 0) KD.out (by omega) (.int .u64 (hiW Q))) (by omega) (.int .u64 (loW Q)))
      replace KQ := Lib.hid (blk_set (blk_set KQ.out (j := 0) (by simp) (.int .u64 (hiW Q))) (j := 1) (by simp) (.int .u64 (loW Q)))
      replace KR := Lib.hid (blk_other (b := (w.heap.size + 1 + 1 + 1)) (n := (w.heap.size + 1 + 1)) (j := 1) (blk_other (b := (w.heap.size + 1 + 1 + 1)) (n := (w.heap.size + 1 + 1)) (j := 0) KR.out (by omega) (.int .u64 (hiW Q))) (by omega) (.int .u64 (loW Q)))
      replace HB := Lib.hid ((HB.out.setCell (p := ⟨(w.heap.size + 1 + 1), 0, none⟩) (show w.heap.size ≤ (w.heap.size + 1 + 1) by omega) (.int .u64 (hiW Q))).setCell (p := ⟨(w.heap.size + 1 + 1), 1, none⟩) (show w.heap.size ≤ (w.heap.size + 1 + 1) by omega) (.int .u64 (loW Q)))
      clear yQ_0 yQ_1 yQ_z yQ_f0 yQ_f1 yR_0 yR_1 yR_z yR_f0 yR_f1
      simp only [List.set] at KQ
      replace KS := Lib.hid (blk_other (b := w.heap.size) (n := (w.heap.size + 1 + 1 + 1)) (j := 1) (blk_other (b := w.heap.size) (n := (w.heap.size + 1 + 1 + 1)) (j := 0) KS.out (by omega) (.int .u64 (hiW R))) (by omega) (.int .u64 (loW R)))
      replace KD := Lib.hid (blk_other (b := (w.heap.size + 1)) (n := (w.heap.size + 1 + 1 + 1)) (j := 1) (blk_other (b := (w.heap.size + 1)) (n := (w.heap.size + 1 + 1 + 1)) (j := 0) KD.out (by omega) (.int .u64 (hiW R))) (by omega) (.int .u64 (loW R)))
      replace KQ := Lib.hid (blk_other (b := (w.heap.size + 1 + 1)) (n := (w.heap.size + 1 + 1 + 1)) (j := 1) (blk_other (b := (w.heap.size + 1 + 1)) (n := (w.heap.size + 1 + 1 + 1)) (j := 0) KQ.out (by omega) (.int .u64 (hiW R))) (by omega) (.int .u64 (loW R)))
      replace KR := Lib.hid (blk_set (blk_set KR.out (j := 0) (by simp) (.int .u64 (hiW R))) (j := 1) (by simp) (.int .u64 (loW R)))
      replace HB := Lib.hid ((HB.out.setCell (p := ⟨(w.heap.size + 1 + 1 + 1), 0, none⟩) (show w.heap.size ≤ (w.heap.size + 1 + 1 + 1) by omega) (.int .u64 (hiW R))).setCell (p := ⟨(w.heap.size + 1 + 1 + 1), 1, none⟩) (show w.heap.size ≤ (w.heap.size + 1 + 1 + 1) by omega) (.int .u64 (loW R)))
      simp only [List.set] at KR
      replace KS := Lib.hid (blk_drew1 KS.out)
      replace KD := Lib.hid (blk_drew1 KD.out)
      replace KQ := Lib.hid (blk_drew1 KQ.out)
      replace KR := Lib.hid (blk_drew1 KR.out)
      replace HB := Lib.hid (below_drew1 HB.out)
      generalize (((((wr.setCell ⟨(w.heap.size + 1 + 1), 0, none⟩ (.int .u64 (hiW Q))).setCell ⟨(w.heap.size + 1 + 1), 1, none⟩ (.int .u64 (loW Q))).setCell ⟨(w.heap.size + 1 + 1 + 1), 0, none⟩ (.int .u64 (hiW R))).setCell ⟨(w.heap.size + 1 + 1 + 1), 1, none⟩ (.int .u64 (loW R)))).drew = w3 at *
      have yQ := KQ.out
      have yQ_0 := yQ.c 0 _ rfl
      have yQ_1 := yQ.c 1 _ rfl
      have yQ_z := yQ.lt
      clear yQ
      have yR := KR.out
      have yR_0 := yR.c 0 _ rfl
      have yR_1 := yR.c 1 _ rfl
      have yR_z := yR.lt
      clear yR
      go_wp2
      refine bodyPost_ret (v := .tuple #[.agg #[.int .u64 (hiW Q), .int .u64 (loW Q)], .agg #[.int .u64 (hiW R), .int .u64 (loW R)]]) (by simp [results, Tryz.results131, go_sem, yQ_0, yQ_1, yR_0, yR_1]) rfl ⟨by rw [HQ.out, HR.out], HB.out⟩
    | succ i =>
      have hz : z = (i : Int) := by have := HZ.out; omega
      subst hz
      clear HZ
      obtain ⟨R, Q, b, R', Q', eR, eQ, eb, eR', eQ', r0, r1, q0, q1, b0, b1, dp, dm, fin⟩ := ST.out i
      rw [← eR] at KR
      rw [← eQ] at KQ
      have eb0 := Lib.hid eb
      have HR' := Lib.hid eR'
      have HQ' := Lib.hid eQ'
      have TW := Lib.hid fun w => wtwice_any R b w r0 r1 b0 b1
      have TQ := Lib.hid fun w => wtwice_any Q 0 w q0 q1 (by omega) (by omega)
      have CM := Lib.hid fun w => wcmp_any (2 * R + b) (D : Int) w
      have LS := Lib.hid fun (h : (D : Int) ≤ 2 * R + b) w => wless_any (2 * R + b) (D : Int) w (by omega) h (by omega)
      have O1 := or1_u64 (q := Q) q0
      have O2 := Lib.hid (hi_odd (q := Q) q0)
      have g0 : decide (0 ≤ (i : Int)) = true := by simp
      have A63 := and_i64 i (by omega)
      have BL1 := BL.out i
      have BH1 := BH.out (i - 64)
      rw [← eb] at BL1
      have hk2 : i < 128 := by omega
      unfold usz at TW TQ CM LS
      simp only [Int.add_zero] at TQ
      clear hk eR eQ eb eR' eQ' ST BL BH HE0 HE1 r0 r1 q0 q1 b0 b1 dp dm
      generalize hd : (D : Int) = dd at *
      by_cases h64 : i < 64
      · rw [Nat.mod_eq_of_lt h64] at A63
        have BT := BL1 h64
        have g64 : decide (64 ≤ (i : Int)) = false := by simp; omega
        clear BL1 BH1
        rcases fin with ⟨f0, f1, f2⟩ | ⟨f0, f1, f2⟩
        · have LS2 := Lib.hid (LS.out f0)
          have gc : decide (0 ≤ cmpI (2 * R + b) dd) = true := by unfold cmpI; rw [if_neg (by omega)]; split <;> decide
          clear LS f0
          generalize cmpI (2 * R + b) dd = c at *
          have yS := KS.out
          have yS_0 := yS.c 0 _ rfl
          have yS_1 := yS.c 1 _ rfl
          have yS_z := yS.lt
          clear yS
          have yR := KR.out
          have yR_0 := yR.c 0 _ rfl
          have yR_1 := yR.c 1 _ rfl
          have yR_z := yR.lt
          have yR_f0 := yR.f 0 _ rfl
          have yR_f1 := yR.f 1 _ rfl
          clear yR
          go_wp2_with fail
          refine (TW.out _).mono ?_
          rintro e1 w1 ⟨rfl, hb1⟩
          replace HB := Lib.hid (HB.out.trans (hb1.mono HB.out.size))
          replace KS := Lib.hid (KS.out.below hb1)
          replace KD := Lib.hid (KD.out.below hb1)
          replace KQ := Lib.hid (KQ.out.below hb1)
          replace KR := Lib.hid (KR.out.below hb1)
          clear yS_0 yS_1 yS_z yR_0 yR_1 yR_z yR_f0 yR_f1
          clear hb1
          have yQ := KQ.out
          have yQ_0 := yQ.c 0 _ rfl
          have yQ_1 := yQ.c 1 _ rfl
          have yQ_z := yQ.lt
          have yQ_f0 := yQ.f 0 _ rfl
          have yQ_f1 := yQ.f 1 _ rfl
          clear yQ
          have yR := KR.out
          have yR_0 := yR.c 0 _ rfl
          have yR_1 := yR.c 1 _ rfl
          have yR_z := yR.lt
          have yR_f0 := yR.f 0 _ rfl
          have yR_f1 := yR.f 1 _ rfl
          clear yR
          go_wp2_with fail
          replace KS := Lib.hid (blk_other (b := w.heap.size) (n := (w.heap.size + 1 + 1 + 1)) (j := 1) (blk_other (b := w.heap.size) (n := (w.heap.size + 1 + 1 + 1)) (j := 0) KS.out (by omega) (.int .u64 (hiW (2 * R + b)))) (by omega) (.int .u64 (loW (2 * R + b))))
          replace KD := Lib.hid (blk_other (b := (w.heap.size + 1)) (n := (w.heap.size + 1 + 1 + 1)) (j := 1) (blk_other (b := (w.heap.size + 1)) (n := (w.heap.size + 1 + 1 + 1)) (j := 0) KD.out (by omega) (.int .u64 (hiW (2 * R + b)))) (by omega) (.int .u64 (loW (2 * R + b))))
          replace KQ := Lib.hid (blk_other (b := (w.heap.size + 1 + 1)) (n := (w.heap.size + 1 + 1 + 1)) (j := 1) (blk_other (b := (w.heap.size + 1 + 1)) (n := (w.heap.size + 1 + 1 + 1)) (j := 0) KQ.out (by omega) (.int .u64 (hiW (2 * R + b)))) (by omega) (.int .u64 (loW (2 * R + b))))
          replace KR := Lib.hid (blk_set (blk_set KR.out (j := 0) (by simp) (.int .u64 (hiW (2 * R + b)))) (j := 1) (by simp) (.int .u64 (loW (2 * R + b))))
          replace HB := Lib.hid ((HB.out.setCell (p := ⟨(w.heap.size + 1 + 1 + 1), 0, none⟩) (show w.heap.size ≤ (w.heap.size + 1 + 1 + 1) by omega) (.int .u64 (hiW (2 * R + b)))).setCell (p := ⟨(w.heap.size + 1 + 1 + 1), 1, none⟩) (show w.heap.size ≤ (w.heap.size + 1 + 1 + 1) by omega) (.int .u64 (loW (2 * R + b))))
          clear yQ_0 yQ_1 yQ_z yQ_f0 yQ_f1 yR_0 yR_1 yR_z yR_f0 yR_f1
          generalize (w1.setCell ⟨(w.heap.size + 1 + 1 + 1), 0, none⟩ (.int .u64 (hiW (2 * R + b)))).setCell ⟨(w.heap.size + 1 + 1 + 1), 1, none⟩ (.int .u64 (loW (2 * R + b))) = w2 at *
          simp only [List.set] at KR
          refine (TQ.out _).mono ?_
          rintro e3 w3 ⟨rfl, hb3⟩
          replace HB := Lib.hid (HB.out.trans (hb3.mono HB.out.size))
          replace KS := Lib.hid (KS.out.below hb3)
          replace KD := Lib.hid (KD.out.below hb3)
          replace KQ := Lib.hid (KQ.out.below hb3)
          replace KR := Lib.hid (KR.out.below hb3)
          clear hb3
          have yD := KD.out
          have yD_0 := yD.c 0 _ rfl
          have yD_1 := yD.c 1 _ rfl
          have yD_z := yD.lt
          clear yD
          have yQ := KQ.out
          have yQ_0 := yQ.c 0 _ rfl
          have yQ_1 := yQ.c 1 _ rfl
          have yQ_z := yQ.lt
          have yQ_f0 := yQ.f 0 _ rfl
          have yQ_f1 := yQ.f 1 _ rfl
          clear yQ
          have yR := KR.out
          have yR_0 := yR.c 0 _ rfl
          have yR_1 := yR.c 1 _ rfl
          have yR_z := yR.lt
          have yR_f0 := yR.f 0 _ rfl
          have yR_f1 := yR.f 1 _ rfl
          clear yR
          go_wp2_with fail
          replace KS := Lib.hid (blk_other (b := w.heap.size) (n := (w.heap.size + 1 + 1)) (j := 1) (blk_other (b := w.heap.size) (n := (w.heap.size + 1 + 1)) (j := 0) KS.out (by omega) (.int .u64 (hiW (2 * Q)))) (by omega) (.int .u64 (loW (2 * Q))))
          replace KD := Lib.hid (blk_other (b := (w.heap.size + 1)) (n := (w.heap.size + 1 + 1)) (j := 1) (blk_other (b := (w.heap.size + 1)) (n := (w.heap.size + 1 + 1)) (j := 0) KD.out (by omega) (.int .u64 (hiW (2 * Q)))) (by omega) (.int .u64 (loW (2 * Q))))
          replace KQ := Lib.hid (blk_set (blk_set KQ.out (j := 0) (by simp) (.int .u64 (hiW (2 * Q)))) (j := 1) (by simp) (.int .u64 (loW (2 * Q))))
          replace KR := Lib.hid (blk_other (b := (w.heap.size + 1 + 1 + 1)) (n := (w.heap.size + 1 + 1)) (j := 1) (blk_other (b := (w.heap.size + 1 + 1 + 1)) (n := (w.heap.size + 1 + 1)) (j := 0) KR.out (by omega) (.int .u64 (hiW (2 * Q)))) (by omega) (.int .u64 (loW (2 * Q))))
          replace HB := Lib.hid ((HB.out.setCell (p := ⟨(w.heap.size + 1 + 1), 0, none⟩) (show w.heap.size ≤ (w.heap.size + 1 + 1) by omega) (.int .u64 (hiW (2 * Q)))).setCell (p := ⟨(w.heap.size + 1 + 1), 1, none⟩) (show w.heap.size ≤ (w.heap.size + 1 + 1) by omega) (.int .u64 (loW (2 * Q))))
          clear yD_0 yD_1 yD_z yQ_0 yQ_1 yQ_z yQ_f0 yQ_f1 yR_0 yR_1 yR_z yR_f0 yR_f1
          generalize (w3.setCell ⟨(w.heap.size + 1 + 1), 0, none⟩ (.int .u64 (hiW (2 * Q)))).setCell ⟨(w.heap.size + 1 + 1), 1, none⟩ (.int .u64 (loW (2 * Q))) = w4 at *
          simp only [List.set] at KQ
          refine (CM.out _).mono ?_
          rintro e5 w5 ⟨rfl, hb5⟩
          replace HB := Lib.hid (HB.out.trans (hb5.mono HB.out.size))
          replace KS := Lib.hid (KS.out.below hb5)
          replace KD := Lib.hid (KD.out.below hb5)
          replace KQ := Lib.hid (KQ.out.below hb5)
          replace KR := Lib.hid (KR.out.below hb5)
          clear hb5
          have yD := KD.out
          have yD_0 := yD.c 0 _ rfl
          have yD_1 := yD.c 1 _ rfl
          have yD_z := yD.lt
          clear yD
          have yQ := KQ.out
          have yQ_0 := yQ.c 0 _ rfl
          have yQ_1 := yQ.c 1 _ rfl
          have yQ_z := yQ.lt
          have yQ_f0 := yQ.f 0 _ rfl
          have yQ_f1 := yQ.f 1 _ rfl
          clear yQ
          have yR := KR.out
          have yR_0 := yR.c 0 _ rfl
          have yR_1 := yR.c 1 _ rfl
          have yR_z := yR.lt
          have yR_f0 := yR.f 0 _ rfl
          have yR_f1 := yR.f 1 _ rfl
          clear yR
          go_wp2_with fail
          refine (LS2.out _).mono ?_
          rintro e6 w6 ⟨rfl, hb6⟩
          replace HB := Lib.hid (HB.out.trans (hb6.mono HB.out.size))
          replace KS := Lib.hid (KS.out.below hb6)
          replace KD := Lib.hid (KD.out.below hb6)
          replace KQ := Lib.hid (KQ.out.below hb6)
          replace KR := Lib.hid (KR.out.below hb6)
          clear yD_0 yD_1 yD_z yQ_0 yQ_1 yQ_z yQ_f0 yQ_f1 yR_0 yR_1 yR_z yR_f0 yR_f1
          clear hb6
          have yQ := KQ.out
          have yQ_0 := yQ.c 0 _ rfl
          have yQ_1 := yQ.c 1 _ rfl
          have yQ_z := yQ.lt
          have yQ_f0 := yQ.f 0 _ rfl
          have yQ_f1 := yQ.f 1 _ rfl
          clear yQ
          have yR := KR.out
          have yR_0 := yR.c 0 _ rfl
          have yR_1 := yR.c 1 _ rfl
          have yR_z := yR.lt
          have yR_f0 := yR.f 0 _ rfl
          have yR_f1 := yR.f 1 _ rfl
          clear yR
          go_wp2
          replace KS := Lib.hid (blk_other (b := w.heap.size) (n := (w.heap.size + 1 + 1 + 1)) (j := 1) (blk_other (b := w.heap.size) (n := (w.heap.size + 1 + 1 + 1)) (j := 0) KS.out (by omega) (.int .u64 (hiW (2 * R + b - dd)))) (by omega) (.int .u64 (loW (2 * R + b - dd))))
          replace KD := Lib.hid (blk_other (b := (w.heap.size + 1)) (n := (w.heap.size + 1 + 1 + 1)) (j := 1) (blk_other (b := (w.heap.size + 1)) (n := (w.heap.size + 1 + 1 + 1)) (j := 0) KD.out (by omega) (.int .u64 (hiW (2 * R + b - dd)))) (by omega) (.int .u64 (loW (2 * R + b - dd))))
          replace KQ := Lib.hid (blk_other (b := (w.heap.size + 1 + 1)) (n := (w.heap.size + 1 + 1 + 1)) (j := 1) (blk_other (b := (w.heap.size + 1 + 1)) (n := (w.heap.size + 1 + 1 + 1)) (j := 0) KQ.out (by omega) (.int .u64 (hiW (2 * R + b - dd)))) (by omega) (.int .u64 (loW (2 * R + b - dd))))
          replace KR := Lib.hid (blk_set (blk_set KR.out (j := 0) (by simp) (.int .u64 (hiW (2 * R + b - dd)))) (j := 1) (by simp) (.int .u64 (loW (2 * R + b - dd))))
          replace HB := Lib.hid ((HB.out.setCell (p := ⟨(w.heap.size + 1 + 1 + 1), 0, none⟩) (show w.heap.size ≤ (w.heap.size + 1 + 1 + 1) by omega) (.int .u64 (hiW (2 * R + b - dd)))).setCell (p := ⟨(w.heap.size + 1 + 1 + 1), 1, none⟩) (show w.heap.size ≤ (w.heap.size + 1 + 1 + 1) by omega) (.int .u64 (loW (2 * R + b - dd))))
          clear yQ_0 yQ_1 yQ_z yQ_f0 yQ_f1 yR_0 yR_1 yR_z yR_f0 yR_f1
          generalize (w6.setCell ⟨(w.heap.size + 1 + 1 + 1), 0, none⟩ (.int .u64 (hiW (2 * R + b - dd)))).setCell ⟨(w.heap.size + 1 + 1 + 1), 1, none⟩ (.int .u64 (loW (2 * R + b - dd))) = w7 at *
          simp only [List.set] at KR
          replace KS := Lib.hid (blk_other (b := w.heap.size) (n := (w.heap.size + 1 + 1)) (j := 1) KS.out (by omega) (.int .u64 (loW (2 * Q + 1))))
          replace KD := Lib.hid (blk_other (b := (w.heap.size + 1)) (n := (w.heap.size + 1 + 1)) (j := 1) KD.out (by omega) (.int .u64 (loW (2 * Q + 1))))
          replace KQ := Lib.hid (blk_set KQ.out (j := 1) (by simp) (.int .u64 (loW (2 * Q + 1))))
          replace KR := Lib.hid (blk_other (b := (w.heap.size + 1 + 1 + 1)) (n := (w.heap.size + 1 + 1)) (j := 1) KR.out (by omega) (.int .u64 (loW (2 * Q + 1))))
          replace HB := Lib.hid (HB.out.setCell (p := ⟨(w.heap.size + 1 + 1), 1, none⟩) (show w.heap.size ≤ (w.heap.size + 1 + 1) by omega) (.int .u64 (loW (2 * Q + 1))))
          generalize w7.setCell ⟨(w.heap.size + 1 + 1), 1, none⟩ (.int .u64 (loW (2 * Q + 1))) = w8 at *
          simp only [List.set] at KQ
          subst hd
          rw [O2.out] at KQ
          rw [← f1, HQ'.out] at KQ
          rw [← f2, HR'.out] at KR
          exact ⟨⟨_, _, rfl, Lib.hid (by omega), by omega, HB, KS, KD, KQ, KR⟩, by simp [intOf]; try omega⟩
        · have gc : decide (0 ≤ cmpI (2 * R + b) dd) = false := by unfold cmpI; rw [if_pos (by omega)]; decide
          clear LS f0
          generalize cmpI (2 * R + b) dd = c at *
          have yS := KS.out
          have yS_0 := yS.c 0 _ rfl
          have yS_1 := yS.c 1 _ rfl
          have yS_z := yS.lt
          clear yS
          have yR := KR.out
          have yR_0 := yR.c 0 _ rfl
          have yR_1 := yR.c 1 _ rfl
          have yR_z := yR.lt
          have yR_f0 := yR.f 0 _ rfl
          have yR_f1 := yR.f 1 _ rfl
          clear yR
          go_wp2_with fail
          refine (TW.out _).mono ?_
          rintro e1 w1 ⟨rfl, hb1⟩
          replace HB := Lib.hid (HB.out.trans (hb1.mono HB.out.size))
          replace KS := Lib.hid (KS.out.below hb1)
          replace KD := Lib.hid (KD.out.below hb1)
          replace KQ := Lib.hid (KQ.out.below hb1)
          replace KR := Lib.hid (KR.out.below hb1)
          clear yS_0 yS_1 yS_z yR_0 yR_1 yR_z yR_f0 yR_f1
          clear hb1
          have yQ := KQ.out
          have yQ_0 := yQ.c 0 _ rfl
          have yQ_1 := yQ.c 1 _ rfl
          have yQ_z := yQ.lt
          have yQ_f0 := yQ.f 0 _ rfl
          have yQ_f1 := yQ.f 1 _ rfl
          clear yQ
          have yR := KR.out
          have yR_0 := yR.c 0 _ rfl
          have yR_1 := yR.c 1 _ rfl
          have yR_z := yR.lt
          have yR_f0 := yR.f 0 _ rfl
          have yR_f1 := yR.f 1 _ rfl
          clear yR
          go_wp2_with fail
          replace KS := Lib.hid (blk_other (b := w.heap.size) (n := (w.heap.size + 1 + 1 + 1)) (j := 1) (blk_other (b := w.heap.size) (n := (w.heap.size + 1 + 1 + 1)) (j := 0) KS.out (by omega) (.int .u64 (hiW (2 * R + b)))) (by omega) (.int .u64 (loW (2 * R + b))))
          replace KD := Lib.hid (blk_other (b := (w.heap.size + 1)) (n := (w.heap.size + 1 + 1 + 1)) (j := 1) (blk_other (b := (w.heap.size + 1)) (n := (w.heap.size + 1 + 1 + 1)) (j := 0) KD.out (by omega) (.int .u64 (hiW (2 * R + b)))) (by omega) (.int .u64 (loW (2 * R + b))))
          replace KQ := Lib.hid (blk_other (b := (w.heap.size + 1 + 1)) (n := (w.heap.size + 1 + 1 + 1)) (j := 1) (blk_other (b := (w.heap.size + 1 + 1)) (n := (w.heap.size + 1 + 1 + 1)) (j := 0) KQ.out (by omega) (.int .u64 (hiW (2 * R + b)))) (by omega) (.int .u64 (loW (2 * R + b))))
          replace KR := Lib.hid (blk_set (blk_set KR.out (j := 0) (by simp) (.int .u64 (hiW (2 * R + b)))) (j := 1) (by simp) (.int .u64 (loW (2 * R + b))))
          replace HB := Lib.hid ((HB.out.setCell (p := ⟨(w.heap.size + 1 + 1 + 1), 0, none⟩) (show w.heap.size ≤ (w.heap.size + 1 + 1 + 1) by omega) (.int .u64 (hiW (2 * R + b)))).setCell (p := ⟨(w.heap.size + 1 + 1 + 1), 1, none⟩) (show w.heap.size ≤ (w.heap.size + 1 + 1 + 1) by omega) (.int .u64 (loW (2 * R + b))))
          clear yQ_0 yQ_1 yQ_z yQ_f0 yQ_f1 yR_0 yR_1 yR_z yR_f0 yR_f1
          generalize (w1.setCell ⟨(w.heap.size + 1 + 1 + 1), 0, none⟩ (.int .u64 (hiW (2 * R + b)))).setCell ⟨(w.heap.size + 1 + 1 + 1), 1, none⟩ (.int .u64 (loW (2 * R + b))) = w2 at *
          simp only [List.set] at KR
          refine (TQ.out _).mono ?_
          rintro e3 w3 ⟨rfl, hb3⟩
          replace HB := Lib.hid (HB.out.trans (hb3.mono HB.out.size))
          replace KS := Lib.hid (KS.out.below hb3)
          replace KD := Lib.hid (KD.out.below hb3)
          replace KQ := Lib.hid (KQ.out.below hb3)
          replace KR := Lib.hid (KR.out.below hb3)
          clear hb3
          have yD := KD.out
          have yD_0 := yD.c 0 _ rfl
          have yD_1 := yD.c 1 _ rfl
          have yD_z := yD.lt
          clear yD
          have yQ := KQ.out
          have yQ_0 := yQ.c 0 _ rfl
          have yQ_1 := yQ.c 1 _ rfl
          have yQ_z := yQ.lt
          have yQ_f0 := yQ.f 0 _ rfl
          have yQ_f1 := yQ.f 1 _ rfl
          clear yQ
          have yR := KR.out
          have yR_0 := yR.c 0 _ rfl
          have yR_1 := yR.c 1 _ rfl
          have yR_z := yR.lt
          have yR_f0 := yR.f 0 _ rfl
          have yR_f1 := yR.f 1 _ rfl
          clear yR
          go_wp2_with fail
          replace KS := Lib.hid (blk_other (b := w.heap.size) (n := (w.heap.size + 1 + 1)) (j := 1) (blk_other (b := w.heap.size) (n := (w.heap.size + 1 + 1)) (j := 0) KS.out (by omega) (.int .u64 (hiW (2 * Q)))) (by omega) (.int .u64 (loW (2 * Q))))
          replace KD := Lib.hid (blk_other (b := (w.heap.size + 1)) (n := (w.heap.size + 1 + 1)) (j := 1) (blk_other (b := (w.heap.size + 1)) (n := (w.heap.size + 1 + 1)) (j := 0) KD.out (by omega) (.int .u64 (hiW (2 * Q)))) (by omega) (.int .u64 (loW (2 * Q))))
          replace KQ := Lib.hid (blk_set (blk_set KQ.out (j := 0) (by simp) (.int .u64 (hiW (2 * Q)))) (j := 1) (by simp) (.int .u64 (loW (2 * Q))))
          replace KR := Lib.hid (blk_other (b := (w.heap.size + 1 + 1 + 1)) (n := (w.heap.size + 1 + 1)) (j := 1) (blk_other (b := (w.heap.size + 1 + 1 + 1)) (n := (w.heap.size + 1 + 1)) (j := 0) KR.out (by omega) (.int .u64 (hiW (2 * Q)))) (by omega) (.int .u64 (loW (2 * Q))))
          replace HB := Lib.hid ((HB.out.setCell (p := ⟨(w.heap.size + 1 + 1), 0, none⟩) (show w.heap.size ≤ (w.heap.size + 1 + 1) by omega) (.int .u64 (hiW (2 * Q)))).setCell (p := ⟨(w.heap.size + 1 + 1), 1, none⟩) (show w.heap.size ≤ (w.heap.size + 1 + 1) by omega) (.int .u64 (loW (2 * Q))))
          clear yD_0 yD_1 yD_z yQ_0 yQ_1 yQ_z yQ_f0 yQ_f1 yR_0 yR_1 yR_z yR_f0 yR_f1
          generalize (w3.setCell ⟨(w.heap.size + 1 + 1), 0, none⟩ (.int .u64 (hiW (2 * Q)))).setCell ⟨(w.heap.size + 1 + 1), 1, none⟩ (.int .u64 (loW (2 * Q))) = w4 at *
          simp only [List.set] at KQ
          refine (CM.out _).mono ?_
          rintro e5 w5 ⟨rfl, hb5⟩
          replace HB := Lib.hid (HB.out.trans (hb5.mono HB.out.size))
          replace KS := Lib.hid (KS.out.below hb5)
          replace KD := Lib.hid (KD.out.below hb5)
          replace KQ := Lib.hid (KQ.out.below hb5)
          replace KR := Lib.hid (KR.out.below hb5)
          clear hb5
          have yD := KD.out
          have yD_0 := yD.c 0 _ rfl
          have yD_1 := yD.c 1 _ rfl
          have yD_z := yD.lt
          clear yD
          have yQ := KQ.out
          have yQ_0 := yQ.c 0 _ rfl
          have yQ_1 := yQ.c 1 _ rfl
          have yQ_z := yQ.lt
          have yQ_f0 := yQ.f 0 _ rfl
          have yQ_f1 := yQ.f 1 _ rfl
          clear yQ
          have yR := KR.out
          have yR_0 := yR.c 0 _ rfl
          have yR_1 := yR.c 1 _ rfl
          have yR_z := yR.lt
          have yR_f0 := yR.f 0 _ rfl
          have yR_f1 := yR.f 1 _ rfl
          clear yR
          go_wp2
          clear yD_0 yD_1 yD_z yQ_0 yQ_1 yQ_z yQ_f0 yQ_f1 yR_0 yR_1 yR_z yR_f0 yR_f1
          subst hd
          skip
          rw [← f1, HQ'.out] at KQ
          rw [← f2, HR'.out] at KR
          exact ⟨⟨_, _, rfl, Lib.hid (by omega), by omega, HB, KS, KD, KQ, KR⟩, by simp [intOf]; try omega⟩
      · obtain ⟨j, rfl⟩ : ∃ j, i = j + 64 := ⟨i - 64, by omega⟩
        have A : bits .and .i64 ((j : Int) + 64) 63 = (j : Int) := by rw [show ((j : Int) + 64) = ((j + 64 : Nat) : Int) by omega, A63]; omega
        have BT : bits .and .u64 (hiW (N : Int) / 2 ^ j) 1 = b := by rw [eb0.out]; have := BH1; rwa [show j + 64 - 64 = j by omega] at this
        simp only [Int.natCast_add, Int.cast_ofNat_Int] at g0
        have g64 : decide (64 ≤ (j : Int) + 64) = true := decide_eq_true (by omega)
        clear BL1 BH1 A63 h64
        rcases fin with ⟨f0, f1, f2⟩ | ⟨f0, f1, f2⟩
        · have LS2 := Lib.hid (LS.out f0)
          have gc : decide (0 ≤ cmpI (2 * R + b) dd) = true := by unfold cmpI; rw [if_neg (by omega)]; split <;> decide
          clear LS f0
          generalize cmpI (2 * R + b) dd = c at *
          have yS := KS.out
          have yS_0 := yS.c 0 _ rfl
          have yS_1 := yS.c 1 _ rfl
          have yS_z := yS.lt
          clear yS
          have yR := KR.out
          have yR_0 := yR.c 0 _ rfl
          have yR_1 := yR.c 1 _ rfl
          have yR_z := yR.lt
          have yR_f0 := yR.f 0 _ rfl
          have yR_f1 := yR.f 1 _ rfl
          clear yR
          go_wp2_with fail
          refine (TW.out _).mono ?_
          rintro e1 w1 ⟨rfl, hb1⟩
          replace HB := Lib.hid (HB.out.trans (hb1.mono HB.out.size))
          replace KS := Lib.hid (KS.out.below hb1)
          replace KD := Lib.hid (KD.out.below hb1)
          replace KQ := Lib.hid (KQ.out.below hb1)
          replace KR := Lib.hid (KR.out.below hb1)
          clear yS_0 yS_1 yS_z yR_0 yR_1 yR_z yR_f0 yR_f1
          clear hb1
          have yQ := KQ.out
          have yQ_0 := yQ.c 0 _ rfl
          have yQ_1 := yQ.c 1 _ rfl
          have yQ_z := yQ.lt
          have yQ_f0 := yQ.f 0 _ rfl
          have yQ_f1 := yQ.f 1 _ rfl
          clear yQ
          have yR := KR.out
          have yR_0 := yR.c 0 _ rfl
          have yR_1 := yR.c 1 _ rfl
          have yR_z := yR.lt
          have yR_f0 := yR.f 0 _ rfl
          have yR_f1 := yR.f 1 _ rfl
          clear yR
          go_wp2_with fail
          replace KS := Lib.hid (blk_other (b := w.heap.size) (n := (w.heap.size + 1 + 1 + 1)) (j := 1) (blk_other (b := w.heap.size) (n := (w.heap.size + 1 + 1 + 1)) (j := 0) KS.out (by omega) (.int .u64 (hiW (2 * R + b)))) (by omega) (.int .u64 (loW (2 * R + b))))
          replace KD := Lib.hid (blk_other (b := (w.heap.size + 1)) (n := (w.heap.size + 1 + 1 + 1)) (j := 1) (blk_other (b := (w.heap.size + 1)) (n := (w.heap.size + 1 + 1 + 1)) (j := 0) KD.out (by omega) (.int .u64 (hiW (2 * R + b)))) (by omega) (.int .u64 (loW (2 * R + b))))
          replace KQ := Lib.hid (blk_other (b := (w.heap.size + 1 + 1)) (n := (w.heap.size + 1 + 1 + 1)) (j := 1) (blk_other (b := (w.heap.size + 1 + 1)) (n := (w.heap.size + 1 + 1 + 1)) (j := 0) KQ.out (by omega) (.int .u64 (hiW (2 * R + b)))) (by omega) (.int .u64 (loW (2 * R + b))))
          replace KR := Lib.hid (blk_set (blk_set KR.out (j := 0) (by simp) (.int .u64 (hiW (2 * R + b)))) (j := 1) (by simp) (.int .u64 (loW (2 * R + b))))
          replace HB := Lib.hid ((HB.out.setCell (p := ⟨(w.heap.size + 1 + 1 + 1), 0, none⟩) (show w.heap.size ≤ (w.heap.size + 1 + 1 + 1) by omega) (.int .u64 (hiW (2 * R + b)))).setCell (p := ⟨(w.heap.size + 1 + 1 + 1), 1, none⟩) (show w.heap.size ≤ (w.heap.size + 1 + 1 + 1) by omega) (.int .u64 (loW (2 * R + b))))
          clear yQ_0 yQ_1 yQ_z yQ_f0 yQ_f1 yR_0 yR_1 yR_z yR_f0 yR_f1
          generalize (w1.setCell ⟨(w.heap.size + 1 + 1 + 1), 0, none⟩ (.int .u64 (hiW (2 * R + b)))).setCell ⟨(w.heap.size + 1 + 1 + 1), 1, none⟩ (.int .u64 (loW (2 * R + b))) = w2 at *
          simp only [List.set] at KR
          refine (TQ.out _).mono ?_
          rintro e3 w3 ⟨rfl, hb3⟩
          replace HB := Lib.hid (HB.out.trans (hb3.mono HB.out.size))
          replace KS := Lib.hid (KS.out.below hb3)
          replace KD := Lib.hid (KD.out.below hb3)
          replace KQ := Lib.hid (KQ.out.below hb3)
          replace KR := Lib.hid (KR.out.below hb3)
          clear hb3
          have yD := KD.out
          have yD_0 := yD.c 0 _ rfl
          have yD_1 := yD.c 1 _ rfl
          have yD_z := yD.lt
          clear yD
          have yQ := KQ.out
          have yQ_0 := yQ.c 0 _ rfl
          have yQ_1 := yQ.c 1 _ rfl
          have yQ_z := yQ.lt
          have yQ_f0 := yQ.f 0 _ rfl
          have yQ_f1 := yQ.f 1 _ rfl
          clear yQ
          have yR := KR.out
          have yR_0 := yR.c 0 _ rfl
          have yR_1 := yR.c 1 _ rfl
          have yR_z := yR.lt
          have yR_f0 := yR.f 0 _ rfl
          have yR_f1 := yR.f 1 _ rfl
          clear yR
          go_wp2_with fail
          replace KS := Lib.hid (blk_other (b := w.heap.size) (n := (w.heap.size + 1 + 1)) (j := 1) (blk_other (b := w.heap.size) (n := (w.heap.size + 1 + 1)) (j := 0) KS.out (by omega) (.int .u64 (hiW (2 * Q)))) (by omega) (.int .u64 (loW (2 * Q))))
          replace KD := Lib.hid (blk_other (b := (w.heap.size + 1)) (n := (w.heap.size + 1 + 1)) (j := 1) (blk_other (b := (w.heap.size + 1)) (n := (w.heap.size + 1 + 1)) (j := 0) KD.out (by omega) (.int .u64 (hiW (2 * Q)))) (by omega) (.int .u64 (loW (2 * Q))))
          replace KQ := Lib.hid (blk_set (blk_set KQ.out (j := 0) (by simp) (.int .u64 (hiW (2 * Q)))) (j := 1) (by simp) (.int .u64 (loW (2 * Q))))
          replace KR := Lib.hid (blk_other (b := (w.heap.size + 1 + 1 + 1)) (n := (w.heap.size + 1 + 1)) (j := 1) (blk_other (b := (w.heap.size + 1 + 1 + 1)) (n := (w.heap.size + 1 + 1)) (j := 0) KR.out (by omega) (.int .u64 (hiW (2 * Q)))) (by omega) (.int .u64 (loW (2 * Q))))
          replace HB := Lib.hid ((HB.out.setCell (p := ⟨(w.heap.size + 1 + 1), 0, none⟩) (show w.heap.size ≤ (w.heap.size + 1 + 1) by omega) (.int .u64 (hiW (2 * Q)))).setCell (p := ⟨(w.heap.size + 1 + 1), 1, none⟩) (show w.heap.size ≤ (w.heap.size + 1 + 1) by omega) (.int .u64 (loW (2 * Q))))
          clear yD_0 yD_1 yD_z yQ_0 yQ_1 yQ_z yQ_f0 yQ_f1 yR_0 yR_1 yR_z yR_f0 yR_f1
          generalize (w3.setCell ⟨(w.heap.size + 1 + 1), 0, none⟩ (.int .u64 (hiW (2 * Q)))).setCell ⟨(w.heap.size + 1 + 1), 1, none⟩ (.int .u64 (loW (2 * Q))) = w4 at *
          simp only [List.set] at KQ
          refine (CM.out _).mono ?_
          rintro e5 w5 ⟨rfl, hb5⟩
          replace HB := Lib.hid (HB.out.trans (hb5.mono HB.out.size))
          replace KS := Lib.hid (KS.out.below hb5)
          replace KD := Lib.hid (KD.out.below hb5)
          replace KQ := Lib.hid (KQ.out.below hb5)
          replace KR := Lib.hid (KR.out.below hb5)
          clear hb5
          have yD := KD.out
          have yD_0 := yD.c 0 _ rfl
          have yD_1 := yD.c 1 _ rfl
          have yD_z := yD.lt
          clear yD
          have yQ := KQ.out
          have yQ_0 := yQ.c 0 _ rfl
          have yQ_1 := yQ.c 1 _ rfl
          have yQ_z := yQ.lt
          have yQ_f0 := yQ.f 0 _ rfl
          have yQ_f1 := yQ.f 1 _ rfl
          clear yQ
          have yR := KR.out
          have yR_0 := yR.c 0 _ rfl
          have yR_1 := yR.c 1 _ rfl
          have yR_z := yR.lt
          have yR_f0 := yR.f 0 _ rfl
          have yR_f1 := yR.f 1 _ rfl
          clear yR
          go_wp2_with fail
          refine (LS2.out _).mono ?_
          rintro e6 w6 ⟨rfl, hb6⟩
          replace HB := Lib.hid (HB.out.trans (hb6.mono HB.out.size))
          replace KS := Lib.hid (KS.out.below hb6)
          replace KD := Lib.hid (KD.out.below hb6)
          replace KQ := Lib.hid (KQ.out.below hb6)
          replace KR := Lib.hid (KR.out.below hb6)
          clear yD_0 yD_1 yD_z yQ_0 yQ_1 yQ_z yQ_f0 yQ_f1 yR_0 yR_1 yR_z yR_f0 yR_f1
          clear hb6
          have yQ := KQ.out
          have yQ_0 := yQ.c 0 _ rfl
          have yQ_1 := yQ.c 1 _ rfl
          have yQ_z := yQ.lt
          have yQ_f0 := yQ.f 0 _ rfl
          have yQ_f1 := yQ.f 1 _ rfl
          clear yQ
          have yR := KR.out
          have yR_0 := yR.c 0 _ rfl
          have yR_1 := yR.c 1 _ rfl
          have yR_z := yR.lt
          have yR_f0 := yR.f 0 _ rfl
          have yR_f1 := yR.f 1 _ rfl
          clear yR
          go_wp2
          replace KS := Lib.hid (blk_other (b := w.heap.size) (n := (w.heap.size + 1 + 1 + 1)) (j := 1) (blk_other (b := w.heap.size) (n := (w.heap.size + 1 + 1 + 1)) (j := 0) KS.out (by omega) (.int .u64 (hiW (2 * R + b - dd)))) (by omega) (.int .u64 (loW (2 * R + b - dd))))
          replace KD := Lib.hid (blk_other (b := (w.heap.size + 1)) (n := (w.heap.size + 1 + 1 + 1)) (j := 1) (blk_other (b := (w.heap.size + 1)) (n := (w.heap.size + 1 + 1 + 1)) (j := 0) KD.out (by omega) (.int .u64 (hiW (2 * R + b - dd)))) (by omega) (.int .u64 (loW (2 * R + b - dd))))
          replace KQ := Lib.hid (blk_other (b := (w.heap.size + 1 + 1)) (n := (w.heap.size + 1 + 1 + 1)) (j := 1) (blk_other (b := (w.heap.size + 1 + 1)) (n := (w.heap.size + 1 + 1 + 1)) (j := 0) KQ.out (by omega) (.int .u64 (hiW (2 * R + b - dd)))) (by omega) (.int .u64 (loW (2 * R + b - dd))))
          replace KR := Lib.hid (blk_set (blk_set KR.out (j := 0) (by simp) (.int .u64 (hiW (2 * R + b - dd)))) (j := 1) (by simp) (.int .u64 (loW (2 * R + b - dd))))
          replace HB := Lib.hid ((HB.out.setCell (p := ⟨(w.heap.size + 1 + 1 + 1), 0, none⟩) (show w.heap.size ≤ (w.heap.size + 1 + 1 + 1) by omega) (.int .u64 (hiW (2 * R + b - dd)))).setCell (p := ⟨(w.heap.size + 1 + 1 + 1), 1, none⟩) (show w.heap.size ≤ (w.heap.size + 1 + 1 + 1) by omega) (.int .u64 (loW (2 * R + b - dd))))
          clear yQ_0 yQ_1 yQ_z yQ_f0 yQ_f1 yR_0 yR_1 yR_z yR_f0 yR_f1
          generalize (w6.setCell ⟨(w.heap.size + 1 + 1 + 1), 0, none⟩ (.int .u64 (hiW (2 * R + b - dd)))).setCell ⟨(w.heap.size + 1 + 1 + 1), 1, none⟩ (.int .u64 (loW (2 * R + b - dd))) = w7 at *
          simp only [List.set] at KR
          replace KS := Lib.hid (blk_other (b := w.heap.size) (n := (w.heap.size + 1 + 1)) (j := 1) KS.out (by omega) (.int .u64 (loW (2 * Q + 1))))
          replace KD := Lib.hid (blk_other (b := (w.heap.size + 1)) (n := (w.heap.size + 1 + 1)) (j := 1) KD.out (by omega) (.int .u64 (loW (2 * Q + 1))))
          replace KQ := Lib.hid (blk_set KQ.out (j := 1) (by simp) (.int .u64 (loW (2 * Q + 1))))
          replace KR := Lib.hid (blk_other (b := (w.heap.size + 1 + 1 + 1)) (n := (w.heap.size + 1 + 1)) (j := 1) KR.out (by omega) (.int .u64 (loW (2 * Q + 1))))
          replace HB := Lib.hid (HB.out.setCell (p := ⟨(w.heap.size + 1 + 1), 1, none⟩) (show w.heap.size ≤ (w.heap.size + 1 + 1) by omega) (.int .u64 (loW (2 * Q + 1))))
          generalize w7.setCell ⟨(w.heap.size + 1 + 1), 1, none⟩ (.int .u64 (loW (2 * Q + 1))) = w8 at *
          simp only [List.set] at KQ
          subst hd
          rw [O2.out] at KQ
          rw [← f1, HQ'.out] at KQ
          rw [← f2, HR'.out] at KR
          exact ⟨⟨_, _, rfl, Lib.hid (by omega), by omega, HB, KS, KD, KQ, KR⟩, by simp [intOf]; try omega⟩
        · have gc : decide (0 ≤ cmpI (2 * R + b) dd) = false := by unfold cmpI; rw [if_pos (by omega)]; decide
          clear LS f0
          generalize cmpI (2 * R + b) dd = c at *
          have yS := KS.out
          have yS_0 := yS.c 0 _ rfl
          have yS_1 := yS.c 1 _ rfl
          have yS_z := yS.lt
          clear yS
          have yR := KR.out
          have yR_0 := yR.c 0 _ rfl
          have yR_1 := yR.c 1 _ rfl
          have yR_z := yR.lt
          have yR_f0 := yR.f 0 _ rfl
          have yR_f1 := yR.f 1 _ rfl
          clear yR
          go_wp2_with fail
          refine (TW.out _).mono ?_
          rintro e1 w1 ⟨rfl, hb1⟩
          replace HB := Lib.hid (HB.out.trans (hb1.mono HB.out.size))
          replace KS := Lib.hid (KS.out.below hb1)
          replace KD := Lib.hid (KD.out.below hb1)
          replace KQ := Lib.hid (KQ.out.below hb1)
          replace KR := Lib.hid (KR.out.below hb1)
          clear yS_0 yS_1 yS_z yR_0 yR_1 yR_z yR_f0 yR_f1
          clear hb1
          have yQ := KQ.out
          have yQ_0 := yQ.c 0 _ rfl
          have yQ_1 := yQ.c 1 _ rfl
          have yQ_z := yQ.lt
          have yQ_f0 := yQ.f 0 _ rfl
          have yQ_f1 := yQ.f 1 _ rfl
          clear yQ
          have yR := KR.out
          have yR_0 := yR.c 0 _ rfl
          have yR_1 := yR.c 1 _ rfl
          have yR_z := yR.lt
          have yR_f0 := yR.f 0 _ rfl
          have yR_f1 := yR.f 1 _ rfl
          clear yR
          go_wp2_with fail
          replace KS := Lib.hid (blk_other (b := w.heap.size) (n := (w.heap.size + 1 + 1 + 1)) (j := 1) (blk_other (b := w.heap.size) (n := (w.heap.size + 1 + 1 + 1)) (j := 0) KS.out (by omega) (.int .u64 (hiW (2 * R + b)))) (by omega) (.int .u64 (loW (2 * R + b))))
          replace KD := Lib.hid (blk_other (b := (w.heap.size + 1)) (n := (w.heap.size + 1 + 1 + 1)) (j := 1) (blk_other (b := (w.heap.size + 1)) (n := (w.heap.size + 1 + 1 + 1)) (j := 0) KD.out (by omega) (.int .u64 (hiW (2 * R + b)))) (by omega) (.int .u64 (loW (2 * R + b))))
          replace KQ := Lib.hid (blk_other (b := (w.heap.size + 1 + 1)) (n := (w.heap.size + 1 + 1 + 1)) (j := 1) (blk_other (b := (w.heap.size + 1 + 1)) (n := (w.heap.size + 1 + 1 + 1)) (j := 0) KQ.out (by omega) (.int .u64 (hiW (2 * R + b)))) (by omega) (.int .u64 (loW (2 * R + b))))
          replace KR := Lib.hid (blk_set (blk_set KR.out (j := 0) (by simp) (.int .u64 (hiW (2 * R + b)))) (j := 1) (by simp) (.int .u64 (loW (2 * R + b))))
          replace HB := Lib.hid ((HB.out.setCell (p := ⟨(w.heap.size + 1 + 1 + 1), 0, none⟩) (show w.heap.size ≤ (w.heap.size + 1 + 1 + 1) by omega) (.int .u64 (hiW (2 * R + b)))).setCell (p := ⟨(w.heap.size + 1 + 1 + 1), 1, none⟩) (show w.heap.size ≤ (w.heap.size + 1 + 1 + 1) by omega) (.int .u64 (loW (2 * R + b))))
          clear yQ_0 yQ_1 yQ_z yQ_f0 yQ_f1 yR_0 yR_1 yR_z yR_f0 yR_f1
          generalize (w1.setCell ⟨(w.heap.size + 1 + 1 + 1), 0, none⟩ (.int .u64 (hiW (2 * R + b)))).setCell ⟨(w.heap.size + 1 + 1 + 1), 1, none⟩ (.int .u64 (loW (2 * R + b))) = w2 at *
          simp only [List.set] at KR
          refine (TQ.out _).mono ?_
          rintro e3 w3 ⟨rfl, hb3⟩
          replace HB := Lib.hid (HB.out.trans (hb3.mono HB.out.size))
          replace KS := Lib.hid (KS.out.below hb3)
          replace KD := Lib.hid (KD.out.below hb3)
          replace KQ := Lib.hid (KQ.out.below hb3)
          replace KR := Lib.hid (KR.out.below hb3)
          clear hb3
          have yD := KD.out
          have yD_0 := yD.c 0 _ rfl
          have yD_1 := yD.c 1 _ rfl
          have yD_z := yD.lt
          clear yD
          have yQ := KQ.out
          have yQ_0 := yQ.c 0 _ rfl
          have yQ_1 := yQ.c 1 _ rfl
          have yQ_z := yQ.lt
          have yQ_f0 := yQ.f 0 _ rfl
          have yQ_f1 := yQ.f 1 _ rfl
          clear yQ
          have yR := KR.out
          have yR_0 := yR.c 0 _ rfl
          have yR_1 := yR.c 1 _ rfl
          have yR_z := yR.lt
          have yR_f0 := yR.f 0 _ rfl
          have yR_f1 := yR.f 1 _ rfl
          clear yR
          go_wp2_with fail
          replace KS := Lib.hid (blk_other (b := w.heap.size) (n := (w.heap.size + 1 + 1)) (j := 1) (blk_other (b := w.heap.size) (n := (w.heap.size + 1 + 1)) (j := 0) KS.out (by omega) (.int .u64 (hiW (2 * Q)))) (by omega) (.int .u64 (loW (2 * Q))))
          replace KD := Lib.hid (blk_other (b := (w.heap.size + 1)) (n := (w.heap.size + 1 + 1)) (j := 1) (blk_other (b := (w.heap.size + 1)) (n := (w.heap.size + 1 + 1)) (j := 0) KD.out (by omega) (.int .u64 (hiW (2 * Q)))) (by omega) (.int .u64 (loW (2 * Q))))
          replace KQ := Lib.hid (blk_set (blk_set KQ.out (j := 0) (by simp) (.int .u64 (hiW (2 * Q)))) (j := 1) (by simp) (.int .u64 (loW (2 * Q))))
          replace KR := Lib.hid (blk_other (b := (w.heap.size + 1 + 1 + 1)) (n := (w.heap.size + 1 + 1)) (j := 1) (blk_other (b := (w.heap.size + 1 + 1 + 1)) (n := (w.heap.size + 1 + 1)) (j := 0) KR.out (by omega) (.int .u64 (hiW (2 * Q)))) (by omega) (.int .u64 (loW (2 * Q))))
          replace HB := Lib.hid ((HB.out.setCell (p := ⟨(w.heap.size + 1 + 1), 0, none⟩) (show w.heap.size ≤ (w.heap.size + 1 + 1) by omega) (.int .u64 (hiW (2 * Q)))).setCell (p := ⟨(w.heap.size + 1 + 1), 1, none⟩) (show w.heap.size ≤ (w.heap.size + 1 + 1) by omega) (.int .u64 (loW (2 * Q))))
          clear yD_0 yD_1 yD_z yQ_0 yQ_1 yQ_z yQ_f0 yQ_f1 yR_0 yR_1 yR_z yR_f0 yR_f1
          generalize (w3.setCell ⟨(w.heap.size + 1 + 1), 0, none⟩ (.int .u64 (hiW (2 * Q)))).setCell ⟨(w.heap.size + 1 + 1), 1, none⟩ (.int .u64 (loW (2 * Q))) = w4 at *
          simp only [List.set] at KQ
          refine (CM.out _).mono ?_
          rintro e5 w5 ⟨rfl, hb5⟩
          replace HB := Lib.hid (HB.out.trans (hb5.mono HB.out.size))
          replace KS := Lib.hid (KS.out.below hb5)
          replace KD := Lib.hid (KD.out.below hb5)
          replace KQ := Lib.hid (KQ.out.below hb5)
          replace KR := Lib.hid (KR.out.below hb5)
          clear hb5
          have yD := KD.out
          have yD_0 := yD.c 0 _ rfl
          have yD_1 := yD.c 1 _ rfl
          have yD_z := yD.lt
          clear yD
          have yQ := KQ.out
          have yQ_0 := yQ.c 0 _ rfl
          have yQ_1 := yQ.c 1 _ rfl
          have yQ_z := yQ.lt
          have yQ_f0 := yQ.f 0 _ rfl
          have yQ_f1 := yQ.f 1 _ rfl
          clear yQ
          have yR := KR.out
          have yR_0 := yR.c 0 _ rfl
          have yR_1 := yR.c 1 _ rfl
          have yR_z := yR.lt
          have yR_f0 := yR.f 0 _ rfl
          have yR_f1 := yR.f 1 _ rfl
          clear yR
          go_wp2
          clear yD_0 yD_1 yD_z yQ_0 yQ_1 yQ_z yQ_f0 yQ_f1 yR_0 yR_1 yR_z yR_f0 yR_f1
          subst hd
          skip
          rw [← f1, HQ'.out] at KQ
          rw [← f2, HR'.out] at KR
          exact ⟨⟨_, _, rfl, Lib.hid (by omega), by omega, HB, KS, KD, KQ, KR⟩, by simp [intOf]; try omega⟩
end Go.Proofs.YtplgdlooglnpmaaGreat
namespace Go.Proofs.YtplgdlooglnpmaaGreat
set_option linter.unusedVariables false
theorem em_eq (n d : Int) : n = d * (n / d) + n % d := (Int.mul_ediv_add_emod n d).symm
theorem up_pos {x d : Int} (hd : 0 < d) : ceilI x d = x / d + (if x % d ≠ 0 then 1 else 0) := by
  have h0 := Int.emod_nonneg x (show d ≠ 0 by omega)
  have h1 := Int.emod_lt_of_pos x hd
  by_cases h : x % d = 0
  · rw [if_neg (by omega), Int.add_zero]
    exact ceil_pos0 hd (em_eq x d) h
  · rw [if_pos h]
    exact ceil_pos hd (em_eq x d) (by omega) h1
theorem near_posW {x d : Int} (hd : 0 < d) : nearI2 x d = x / d + (if d - x % d ≤ x % d then 1 else 0) := by
  have h0 := Int.emod_nonneg x (show d ≠ 0 by omega)
  have h1 := Int.emod_lt_of_pos x hd
  by_cases h : d - x % d ≤ x % d
  · rw [if_pos h]
    exact near_pos1 hd (em_eq x d) h h1
  · rw [if_neg h, Int.add_zero]
    exact near_pos0 hd (em_eq x d) h0 (by omega)
theorem near_negW {x d : Int} (hd : 0 < d) : nearI2 x d = -((-x) / d + (if d - (-x) % d < (-x) % d then 1 else 0)) := by
  have h0 := Int.emod_nonneg (-x) (show d ≠ 0 by omega)
  have h1 := Int.emod_lt_of_pos (-x) hd
  by_cases h : d - (-x) % d < (-x) % d
  · rw [if_pos h]
    have := near_neg1 (n := -x) hd (em_eq (-x) d) h h1
    rwa [Int.neg_neg] at this
  · rw [if_neg h, Int.add_zero]
    have := near_neg0 (n := -x) hd (em_eq (-x) d) h0 (by omega)
    rwa [Int.neg_neg] at this
end Go.Proofs.YtplgdlooglnpmaaGreat
