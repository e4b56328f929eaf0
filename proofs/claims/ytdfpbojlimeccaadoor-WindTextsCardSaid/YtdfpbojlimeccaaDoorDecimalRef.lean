/-
  The walk of the reference's Decimal: a number in decimal.
-/
import Derived.Test.YtdfpbojlimeccaaDoorTextPlain
import Derived.Test.YtdfpbojlimeccaaDoorWindRef
import Derived.Deep.RegionWith
import Derived.Laws.IdiomStrings
namespace Go.Proofs.YtdfpbojlimeccaaDoor
set_option linter.unusedVariables false
open Go.RowKit Tr Sq

theorem conv_at (w : World) (b : Nat) (k : Int) (h0 : 0 ≤ k) (h1 : k < 256) (hc : w.cell? ⟨b, 0, none⟩ = some (.int .u8 k)) :
    (convert 75 9 (.slice (some ⟨b, 0, none⟩) 1 1)).run Tryd.prog w = .ok (.string ⟨#[UInt8.ofNat k.toNat]⟩) w := by
  have := run_convert_bytes_back (P := Tryd.prog) w 75 9 5 ⟨b, 0, none⟩ 1 [UInt8.ofNat k.toNat] Tryd.underlying75 Tryd.underlying5 Tryd.underlying9 (fun j hj => by
    have hj : j = 0 := by simpa using hj
    subst hj
    have e : ((UInt8.ofNat k.toNat).toNat : Int) = k := by rw [UInt8.toNat_ofNat']; omega
    simp only [List.getElem_cons_zero]
    rw [e]
    exact hc)
  exact this
theorem conv_new (w : World) (k : Int) (h0 : 0 ≤ k) (h1 : k < 256) (t : TypeId) :
    (convert 75 9 (.slice (some ⟨w.heap.size, 0, none⟩) 1 1)).run Tryd.prog (w.alloc (.cells #[.int .u8 k] t)) = .ok (.string ⟨#[UInt8.ofNat k.toNat]⟩) (w.alloc (.cells #[.int .u8 k] t)) :=
  conv_at _ _ k h0 h1 (by rw [World.cell?_alloc_at _ _ _ _ (by simp)]; rfl)
theorem conv_drew (w : World) (k : Int) (h0 : 0 ≤ k) (h1 : k < 256) (t : TypeId) :
    (convert 75 9 (.slice (some ⟨w.heap.size, 0, none⟩) 1 1)).run Tryd.prog (w.alloc (.cells #[.int .u8 k] t)).drew = .ok (.string ⟨#[UInt8.ofNat k.toNat]⟩) (w.alloc (.cells #[.int .u8 k] t)).drew :=
  conv_at _ _ k h0 h1 (by rw [World.cell?_drew, World.cell?_alloc_at _ _ _ _ (by simp)]; rfl)
theorem conv_after {w w1 : World} {k : Int} {t : TypeId} (h0 : 0 ≤ k) (h1 : k < 256) (hb : Below (w.alloc (.cells #[.int .u8 k] t)).drew.heap.size (w.alloc (.cells #[.int .u8 k] t)).drew w1) :
    (convert 75 9 (.slice (some ⟨w.heap.size, 0, none⟩) 1 1)).run Tryd.prog w1 = .ok (.string ⟨#[UInt8.ofNat k.toNat]⟩) w1 :=
  conv_at _ _ k h0 h1 ((hb.cell (p := ⟨w.heap.size, 0, none⟩) (by simp)).trans (by rw [World.cell?_drew, World.cell?_alloc_at _ _ _ _ (by simp)]; rfl))
theorem dec_small {n : Int} (h0 : 0 ≤ n) (h1 : n < 10) : Lib.decDigits n.toNat = [UInt8.ofNat (48 + n).toNat] := by rw [Lib.decDigits_one (by omega)]; congr 2; omega
set_option maxHeartbeats 1000000 in
set_option maxRecDepth 100000 in
theorem decimal_small (n : Int) (w : World) (h0 : 0 ≤ n) (h1 : n < 10) :
    Calls Tryd.prog 57 #[.int .i64 n] w fun e w' => e = .returned (.string ⟨(Lib.decDigits n.toNat).toArray⟩) ∧ Below w.heap.size w w' := by
  have E := Lib.hid (dec_small h0 h1)
  have k1 : decide (n < 0) = false := by simp; omega
  have k2 : decide (n < 10) = true := by simp; omega
  have cv := fun w t => conv_new w (48 + n) (by omega) (by omega) t
  go_enter Tryd.func57, Tryd.ntmps57
  go_wp2
  go_ret
  exact ⟨by rw [E.out]; rfl, (Below.refl _ _).alloc (Nat.le_refl _) _⟩
theorem dec_big {n : Int} (h : 10 ≤ n) : Lib.decDigits n.toNat = Lib.decDigits (n / 10).toNat ++ [UInt8.ofNat (48 + n % 10).toNat] := by
  rw [Lib.decDigits, dif_neg (by omega)]
  rw [show n.toNat / 10 = (n / 10).toNat by omega, show 48 + n.toNat % 10 = (48 + n % 10).toNat by omega]
theorem cat_one (a : ByteArray) (c : UInt8) : a ++ ⟨#[c]⟩ = ⟨(a.data.toList ++ [c]).toArray⟩ := by
  apply ByteArray.ext
  rw [ByteArray.data_append]
  apply Array.ext'
  simp
theorem lt_new (w : World) (o : Obj) : w.heap.size < (w.alloc o).drew.heap.size := by simp
theorem cell_new (w : World) (v : Value) (t : TypeId) : (w.alloc (.cells #[v] t)).drew.cell? ⟨w.heap.size, 0, none⟩ = some v := by
  rw [World.cell?_drew, World.cell?_alloc_at _ _ _ _ (by simp)]; rfl
set_option maxHeartbeats 4000000 in
set_option maxRecDepth 100000 in
theorem decimal_big (n : Int) (a : ByteArray) (w : World) (h0 : 10 ≤ n) (h1 : n ≤ 9223372036854775807) (la : a.size ≤ 100) (ha : (⟨(Lib.decDigits (n / 10).toNat).toArray⟩ : ByteArray) = a)
    (IH : Hid (∀ w, Calls Tryd.prog 57 #[.int .i64 (n / 10)] w fun e w' => e = .returned (.string a) ∧ Below w.heap.size w w')) :
    Calls Tryd.prog 57 #[.int .i64 n] w fun e w' => e = .returned (.string ⟨(Lib.decDigits n.toNat).toArray⟩) ∧ Below w.heap.size w w' := by
  have E := Lib.hid (show (⟨(Lib.decDigits n.toNat).toArray⟩ : ByteArray) = a ++ ⟨#[UInt8.ofNat (48 + n % 10).toNat]⟩ by rw [cat_one, dec_big h0, ← ha])
  have k1 : decide (n < 0) = false := by simp; omega
  have k2 : decide (n < 10) = false := by simp; omega
  have t1 : n.tdiv 10 = n / 10 := Int.tdiv_eq_ediv_of_nonneg (by omega)
  have t2 : IntKind.i64.wrap (n / 10) = n / 10 := by simp [IntKind.wrap, IntKind.bits, IntKind.signed]; omega
  have t3 : IntKind.i64.wrap (48 + n % 10) = 48 + n % 10 := by simp [IntKind.wrap, IntKind.bits, IntKind.signed]; omega
  have t4 : IntKind.u8.wrap (48 + n % 10) = 48 + n % 10 := by simp [IntKind.wrap, IntKind.bits, IntKind.signed]; omega
  have t5 : IntKind.i64.wrap (n % 10) = n % 10 := by simp [IntKind.wrap, IntKind.bits, IntKind.signed]; omega
  have k3 : n.tmod 10 = n % 10 := Int.tmod_eq_emod_of_nonneg (by omega)
  have n1 : ¬ 9223372036854775807 < a.size + 1 := by omega
  have cv := fun w t => conv_new w (48 + n % 10) (by omega) (by omega) t
  have cd := fun w t => conv_drew w (48 + n % 10) (by omega) (by omega) t
  clear ha
  have g0 : 0 ≤ 48 + n % 10 := by omega
  have g1 : 48 + n % 10 < 256 := by omega
  go_enter Tryd.func57, Tryd.ntmps57
  go_wp2_with fail
  go_region_with (go_simp; go_at_call 57; (refine (IH.out _).mono ?_); rintro e w1 ⟨rfl, hb⟩; first | (with_reducible have cw := conv_after g0 g1 hb) | skip)
  all_goals go_wp2
  all_goals go_ret
  all_goals refine ⟨by rw [E.out]; rfl, ?_⟩
  all_goals first
    | exact (((Below.refl w.heap.size w).drew).trans hb).alloc (((Below.refl w.heap.size w).drew).trans hb).size _
    | exact (((Below.refl w.heap.size w).alloc (Nat.le_refl _) _).drew).trans (hb.mono (by simp))
theorem dec_len {n : Int} (h0 : 0 ≤ n) (h1 : n ≤ 9223372036854775807) : (⟨(Lib.decDigits n.toNat).toArray⟩ : ByteArray).size ≤ 21 := by
  have := Lib.itoa_length_le n (by omega) h1
  unfold Lib.itoa at this
  rw [if_neg (by omega)] at this
  show (Lib.decDigits n.toNat).toArray.size ≤ 21
  simpa using this
theorem decimal_nn (k : Nat) : ∀ (n : Int) (w : World), 0 ≤ n → n.toNat ≤ k → n ≤ 9223372036854775807 →
    Calls Tryd.prog 57 #[.int .i64 n] w fun e w' => e = .returned (.string ⟨(Lib.decDigits n.toNat).toArray⟩) ∧ Below w.heap.size w w' := by
  induction k with
  | zero => intro n w h0 h1 h2; exact decimal_small n w h0 (by omega)
  | succ k ih =>
    intro n w h0 h1 h2
    by_cases h : n < 10
    · exact decimal_small n w h0 h
    · have hl := dec_len (n := n / 10) (by omega) (by omega)
      exact decimal_big n _ w (by omega) h2 (by omega) rfl (Lib.hid (fun w => ih (n / 10) w (by omega) (by omega) (by omega)))
set_option maxHeartbeats 1000000 in
set_option maxRecDepth 100000 in
theorem decimal_any (n : Int) (w : World) (h0 : -9223372036854775807 ≤ n) (h1 : n ≤ 9223372036854775807) :
    Calls Tryd.prog 57 #[.int .i64 n] w fun e w' => e = .returned (.string ⟨(Lib.itoa n).toArray⟩) ∧ Below w.heap.size w w' := by
  by_cases h : n < 0
  · obtain ⟨a, ha⟩ : ∃ a : ByteArray, (⟨(Lib.decDigits (-n).toNat).toArray⟩ : ByteArray) = a := ⟨_, rfl⟩
    have la := dec_len (n := -n) (by omega) (by omega)
    have IH := Lib.hid (fun w => decimal_nn (-n).toNat (-n) w (by omega) (Nat.le_refl _) (by omega))
    rw [ha] at la IH
    have E := Lib.hid (show (⟨(Lib.itoa n).toArray⟩ : ByteArray) = ⟨#[45]⟩ ++ a by
      rw [← ha]; unfold Lib.itoa; rw [if_pos h, show n.natAbs = (-n).toNat by omega]
      apply ByteArray.ext
      rw [ByteArray.data_append]
      apply Array.ext'
      simp)
    have k1 : decide (n < 0) = true := by simpa using h
    have n1 : ¬ 9223372036854775807 < 1 + a.size := by omega
    clear ha
    go_enter Tryd.func57, Tryd.ntmps57
    go_wp2_with fail
    refine (IH.out _).mono ?_
    rintro e w1 ⟨rfl, hb⟩
    go_wp2
    go_ret
    exact ⟨by rw [E.out]; rfl, hb⟩
  · have := decimal_nn n.toNat n w (by omega) (Nat.le_refl _) h1
    unfold Lib.itoa
    rw [if_neg h]
    exact this
end Go.Proofs.YtdfpbojlimeccaaDoor
