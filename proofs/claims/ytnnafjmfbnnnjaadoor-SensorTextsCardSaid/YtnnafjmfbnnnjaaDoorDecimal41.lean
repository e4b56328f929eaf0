/-
  The walk of the reference's Decimal: a number in decimal.
-/
import Derived.Test.YtnnafjmfbnnnjaaDoorEnv41
import Derived.Deep.RegionWith
import Derived.Laws.IdiomStrings
import Derived.LoopTactic
import Derived.Lib.ItoaLen
namespace Go.Proofs.YtnnafjmfbnnnjaaDoor
set_option linter.unusedVariables false
open Go.RowKit

theorem conv_at (w : World) (b : Nat) (k : Int) (h0 : 0 ≤ k) (h1 : k < 256) (hc : w.cell? ⟨b, 0, none⟩ = some (.int .u8 k)) :
    (convert 66 9 (.slice (some ⟨b, 0, none⟩) 1 1)).run Tryd.prog w = .ok (.string ⟨#[UInt8.ofNat k.toNat]⟩) w := by
  have := run_convert_bytes_back (P := Tryd.prog) w 66 9 5 ⟨b, 0, none⟩ 1 [UInt8.ofNat k.toNat] Tryd.underlying66 Tryd.underlying5 Tryd.underlying9 (fun j hj => by
    have hj : j = 0 := by simpa using hj
    subst hj
    have e : ((UInt8.ofNat k.toNat).toNat : Int) = k := by rw [UInt8.toNat_ofNat']; omega
    simp only [List.getElem_cons_zero]
    rw [e]
    exact hc)
  exact this
theorem conv_new (w : World) (k : Int) (h0 : 0 ≤ k) (h1 : k < 256) (t : TypeId) :
    (convert 66 9 (.slice (some ⟨w.heap.size, 0, none⟩) 1 1)).run Tryd.prog (w.alloc (.cells #[.int .u8 k] t)) = .ok (.string ⟨#[UInt8.ofNat k.toNat]⟩) (w.alloc (.cells #[.int .u8 k] t)) :=
  conv_at _ _ k h0 h1 (by rw [World.cell?_alloc_at _ _ _ _ (by simp)]; rfl)
def dg (n : Int) : UInt8 := UInt8.ofNat (48 + n % 10).toNat
theorem dec_small {n : Int} (h0 : 0 ≤ n) (h1 : n < 10) : Lib.decDigits n.toNat = [dg n] := by
  rw [Lib.decDigits_one (by omega)]; unfold dg; congr 2; omega
theorem dec_big {n : Int} (h : 10 ≤ n) : Lib.decDigits n.toNat = Lib.decDigits (n / 10).toNat ++ [dg n] := by
  rw [Lib.decDigits, dif_neg (by omega)]
  unfold dg
  rw [show n.toNat / 10 = (n / 10).toNat by omega, show 48 + n.toNat % 10 = (48 + n % 10).toNat by omega]
theorem dec_len {n : Int} (h0 : 0 ≤ n) (h1 : n ≤ 9223372036854775807) : (⟨(Lib.decDigits n.toNat).toArray⟩ : ByteArray).size ≤ 21 := by
  have := Lib.itoa_length_le n (by omega) h1
  unfold Lib.itoa at this
  rw [if_neg (by omega)] at this
  show (Lib.decDigits n.toNat).toArray.size ≤ 21
  simpa using this
/-- what holds at the head of a round: the number's digits are those of n, its last one struck, and s -/
def DecInv (N : Int) (n : Int) (l : List UInt8) : Prop := 0 ≤ n ∧ n ≤ N ∧ (10 ≤ n → Lib.decDigits N.toNat = Lib.decDigits (n / 10).toNat ++ l) ∧ (n < 10 → Lib.decDigits N.toNat = l)
theorem DecInv.start {N : Int} (h : 0 ≤ N) : DecInv N N [dg N] := ⟨h, Int.le_refl _, fun g => dec_big g, fun g => dec_small h g⟩
theorem DecInv.step {N n : Int} {l : List UInt8} (h : DecInv N n l) (g : 10 ≤ n) : DecInv N (n / 10) (dg (n / 10) :: l) := by
  obtain ⟨h0, h1, h2, h3⟩ := h
  refine ⟨by omega, by omega, fun g' => ?_, fun g' => ?_⟩
  · rw [h2 g, dec_big g']; simp
  · rw [h2 g, dec_small (by omega) g']; rfl
theorem DecInv.len {N n : Int} {l : List UInt8} (h : DecInv N n l) (hN : N ≤ 9223372036854775807) : l.length ≤ 21 := by
  have hl := dec_len (Int.le_trans h.1 h.2.1) hN
  change (Lib.decDigits N.toNat).length ≤ 21 at hl
  by_cases g : 10 ≤ n
  · rw [h.2.2.1 g, List.length_append] at hl; omega
  · rw [h.2.2.2 (by omega)] at hl; exact hl
def DecR (N : Int) (w : World) (s0 s2 : Value) (w' : World) : Prop := ∃ (n : Int) (a : ByteArray), s0 = .int .i64 n ∧ s2 = .string a ∧ Hid (DecInv N n a.data.toList) ∧ 0 ≤ n ∧ n ≤ 9223372036854775807 ∧ a.size ≤ 21 ∧ Below w.heap.size w w'
theorem dg_cons (n : Int) (a : ByteArray) : (⟨#[dg n]⟩ : ByteArray) ++ a = ⟨(dg n :: a.data.toList).toArray⟩ := by
  apply ByteArray.ext
  rw [ByteArray.data_append]
  apply Array.ext'
  simp
set_option maxHeartbeats 1000000 in
set_option maxRecDepth 100000 in
theorem decimal_nn (n : Int) (w : World) (h0 : 0 ≤ n) (h1 : n ≤ 9223372036854775807) :
    Calls Tryd.prog 65 #[.int .i64 n] w fun e w' => e = .returned (.string ⟨(Lib.decDigits n.toNat).toArray⟩) ∧ Below w.heap.size w w' := by
  have k1 : decide (n < 0) = false := by simp; omega
  have t3 : IntKind.i64.wrap (48 + n % 10) = 48 + n % 10 := by simp [IntKind.wrap, IntKind.bits, IntKind.signed]; omega
  have t4 : IntKind.u8.wrap (48 + n % 10) = 48 + n % 10 := by simp [IntKind.wrap, IntKind.bits, IntKind.signed]; omega
  have k3 : n.tmod 10 = n % 10 := Int.tmod_eq_emod_of_nonneg (by omega)
  have cv := fun w t => conv_new w (48 + n % 10) (by omega) (by omega) t
  have hst := Lib.hid (DecInv.start h0)
  go_enter Tryd.func65, Tryd.ntmps65
  go_wp2
  clear t3 t4 k3 cv
  go_loopw [0, 3] (DecR n w) (fun s0 _ _ => (intOf s0).toNat)
  case atStart => exact ⟨n, ⟨#[dg n]⟩, rfl, rfl, hst.out, h0, h1, (by show 1 ≤ 21; decide), (Below.refl _ _).alloc (Nat.le_refl _) _⟩
  case round =>
    obtain ⟨m, a, rfl, rfl, hi, m0, m1, ha, hbw⟩ := hrel
    by_cases hm : 10 ≤ m
    · have t0 : m.tdiv 10 = m / 10 := Int.tdiv_eq_ediv_of_nonneg (by omega)
      have t1 : IntKind.i64.wrap (m / 10) = m / 10 := by simp [IntKind.wrap, IntKind.bits, IntKind.signed]; omega
      have t3 : IntKind.i64.wrap (48 + m / 10 % 10) = 48 + m / 10 % 10 := by simp [IntKind.wrap, IntKind.bits, IntKind.signed]; omega
      have t4 : IntKind.u8.wrap (48 + m / 10 % 10) = 48 + m / 10 % 10 := by simp [IntKind.wrap, IntKind.bits, IntKind.signed]; omega
      have k3 : (m / 10).tmod 10 = m / 10 % 10 := Int.tmod_eq_emod_of_nonneg (by omega)
      have cv := fun w t => conv_new w (48 + m / 10 % 10) (by omega) (by omega) t
      have n1 : ¬ 9223372036854775807 < 1 + a.size := by omega
      have hs := Lib.hid (hi.out.step hm)
      have HB := Lib.hid hbw
      clear hbw
      go_wp2
      go_roundw
      case rel =>
        have e : (⟨#[dg (m / 10)]⟩ : ByteArray) ++ a = ⟨(dg (m / 10) :: a.data.toList).toArray⟩ := dg_cons _ _
        have hl := hs.out.len h1
        exact ⟨m / 10, (⟨#[dg (m / 10)]⟩ : ByteArray) ++ a, rfl, rfl, by rw [e]; exact hs.out, by omega, by omega, by rw [e]; show ((dg (m / 10) :: a.data.toList).toArray).size ≤ 21; simpa using hl, HB.out.alloc HB.out.size _⟩
      case measure => simp [intOf]; omega
    · have E := Lib.hid (hi.out.2.2.2 (by omega))
      have HB := Lib.hid hbw
      clear hbw
      go_wp2
      go_ret
      exact ⟨by rw [E.out]; rfl, HB.out⟩
set_option maxHeartbeats 1000000 in
set_option maxRecDepth 100000 in
theorem decimal_any (n : Int) (w : World) (h0 : -9223372036854775807 ≤ n) (h1 : n ≤ 9223372036854775807) :
    Calls Tryd.prog 65 #[.int .i64 n] w fun e w' => e = .returned (.string ⟨(Lib.itoa n).toArray⟩) ∧ Below w.heap.size w w' := by
  by_cases h : n < 0
  · obtain ⟨a, ha⟩ : ∃ a : ByteArray, (⟨(Lib.decDigits (-n).toNat).toArray⟩ : ByteArray) = a := ⟨_, rfl⟩
    have la := dec_len (n := -n) (by omega) (by omega)
    have IH := Lib.hid (fun w => decimal_nn (-n) w (by omega) (by omega))
    rw [ha] at la IH
    have E := Lib.hid (show (⟨(Lib.itoa n).toArray⟩ : ByteArray) = ⟨#[45]⟩ ++ a by
      rw [← ha]; unfold Lib.itoa; rw [if_pos h, show n.natAbs = (-n).toNat by omega]
      apply ByteArray.ext
      rw [ByteArray.data_append]
      apply Array.ext'
      simp)
    have k1 : decide (n < 0) = true := by simpa using h
    have n1 : ¬ 9223372036854775807 < 1 + a.size := by omega
    clear ha
    go_enter Tryd.func65, Tryd.ntmps65
    go_wp2_with fail
    refine (IH.out _).mono ?_
    rintro e w1 ⟨rfl, hb⟩
    go_wp2
    go_ret
    exact ⟨by rw [E.out]; rfl, hb⟩
  · have := decimal_nn n w (by omega) h1
    unfold Lib.itoa
    rw [if_neg h]
    exact this
end Go.Proofs.YtnnafjmfbnnnjaaDoor
