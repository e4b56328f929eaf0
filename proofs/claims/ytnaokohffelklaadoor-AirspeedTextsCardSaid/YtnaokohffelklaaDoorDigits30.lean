/-
  The walks of the reference's Decimal and Digits, of the program's number, and of the library's FormatInt.
-/
import Derived.Test.YtnaokohffelklaaDoorEnv41
import Derived.Test.YtnaokohffelklaaDoorBase30
import Derived.Test.YtnaokohffelklaaDoorTextBack30
import Derived.Deep.RegionWith
import Derived.Laws.IdiomStrings
import Derived.LoopTactic
import Derived.Lib.ItoaLen
namespace Go.Proofs.YtnaokohffelklaaDoor
set_option linter.unusedVariables false
open Go.RowKit

theorem ret_ib {a b : Int} {x y : Bool} (p : Int × Bool) (h : p = (b, y)) (ha : a = b) (hx : x = y) : Ending.returned (.tuple #[.int .i64 a, .bool x]) = .returned (.tuple #[.int .i64 p.1, .bool p.2]) := by rw [h, ha, hx]
theorem conv_at (w : World) (b : Nat) (k : Int) (h0 : 0 ≤ k) (h1 : k < 256) (hc : w.cell? ⟨b, 0, none⟩ = some (.int .u8 k)) :
    (convert 61 9 (.slice (some ⟨b, 0, none⟩) 1 1)).run Tryd.prog w = .ok (.string ⟨#[UInt8.ofNat k.toNat]⟩) w := by
  have := run_convert_bytes_back (P := Tryd.prog) w 61 9 5 ⟨b, 0, none⟩ 1 [UInt8.ofNat k.toNat] Tryd.underlying61 Tryd.underlying5 Tryd.underlying9 (fun j hj => by
    have hj : j = 0 := by simpa using hj
    subst hj
    have e : ((UInt8.ofNat k.toNat).toNat : Int) = k := by rw [UInt8.toNat_ofNat']; omega
    simp only [List.getElem_cons_zero]
    rw [e]
    exact hc)
  exact this
theorem conv_new (w : World) (k : Int) (h0 : 0 ≤ k) (h1 : k < 256) (t : TypeId) :
    (convert 61 9 (.slice (some ⟨w.heap.size, 0, none⟩) 1 1)).run Tryd.prog (w.alloc (.cells #[.int .u8 k] t)) = .ok (.string ⟨#[UInt8.ofNat k.toNat]⟩) (w.alloc (.cells #[.int .u8 k] t)) :=
  conv_at _ _ k h0 h1 (by rw [World.cell?_alloc_at _ _ _ _ (by simp)]; rfl)
theorem conv_drew (w : World) (k : Int) (h0 : 0 ≤ k) (h1 : k < 256) (t : TypeId) :
    (convert 61 9 (.slice (some ⟨w.heap.size, 0, none⟩) 1 1)).run Tryd.prog (w.alloc (.cells #[.int .u8 k] t)).drew = .ok (.string ⟨#[UInt8.ofNat k.toNat]⟩) (w.alloc (.cells #[.int .u8 k] t)).drew :=
  conv_at _ _ k h0 h1 (by rw [World.cell?_drew, World.cell?_alloc_at _ _ _ _ (by simp)]; rfl)
theorem conv_after {w w1 : World} {k : Int} {t : TypeId} (h0 : 0 ≤ k) (h1 : k < 256) (hb : Below (w.alloc (.cells #[.int .u8 k] t)).drew.heap.size (w.alloc (.cells #[.int .u8 k] t)).drew w1) :
    (convert 61 9 (.slice (some ⟨w.heap.size, 0, none⟩) 1 1)).run Tryd.prog w1 = .ok (.string ⟨#[UInt8.ofNat k.toNat]⟩) w1 :=
  conv_at _ _ k h0 h1 ((hb.cell (p := ⟨w.heap.size, 0, none⟩) (by simp)).trans (by rw [World.cell?_drew, World.cell?_alloc_at _ _ _ _ (by simp)]; rfl))
theorem dec_small {n : Int} (h0 : 0 ≤ n) (h1 : n < 10) : Lib.decDigits n.toNat = [UInt8.ofNat (48 + n).toNat] := by rw [Lib.decDigits_one (by omega)]; congr 2; omega
set_option maxHeartbeats 1000000 in
set_option maxRecDepth 100000 in
theorem decimal_small (n : Int) (w : World) (h0 : 0 ≤ n) (h1 : n < 10) :
    Calls Tryd.prog 41 #[.int .i64 n] w fun e w' => e = .returned (.string ⟨(Lib.decDigits n.toNat).toArray⟩) ∧ Below w.heap.size w w' := by
  have E := Lib.hid (dec_small h0 h1)
  have k1 : decide (n < 0) = false := by simp; omega
  have k2 : decide (n < 10) = true := by simp; omega
  have cv := fun w t => conv_new w (48 + n) (by omega) (by omega) t
  go_enter Tryd.func41, Tryd.ntmps41
  go_wp2
  go_ret
  exact ⟨by rw [E.out]; rfl, (Below.refl _ _).alloc (Nat.le_refl _) _⟩
theorem dec_big {n : Int} (h : 10 ≤ n) : Lib.decDigits n.toNat = Lib.decDigits (n / 10).toNat ++ [UInt8.ofNat (48 + n % 10).toNat] := by
  rw [Lib.decDigits, dif_neg (by omega)]
  rw [show n.toNat / 10 = (n / 10).toNat by omega, show 48 + n.toNat % 10 = (48 + n % 10).toNat by omega]
theorem cat_one (a : ByteArray) (c : UInt8) : a ++ ⟨#[c]⟩ = ⟨(a.data.toList ++ [c]).toArray⟩ := by
  apply ByteArray.ext
  rw [ByteArray.data_append]
  apply Array.ext'
  simp
theorem lt_new (w : World) (o : Obj) : w.heap.size < (w.alloc o).drew.heap.size := by simp
theorem cell_new (w : World) (v : Value) (t : TypeId) : (w.alloc (.cells #[v] t)).drew.cell? ⟨w.heap.size, 0, none⟩ = some v := by
  rw [World.cell?_drew, World.cell?_alloc_at _ _ _ _ (by simp)]; rfl
set_option maxHeartbeats 4000000 in
set_option maxRecDepth 100000 in
theorem decimal_big (n : Int) (a : ByteArray) (w : World) (h0 : 10 ≤ n) (h1 : n ≤ 9223372036854775807) (la : a.size ≤ 100) (ha : (⟨(Lib.decDigits (n / 10).toNat).toArray⟩ : ByteArray) = a)
    (IH : Hid (∀ w, Calls Tryd.prog 41 #[.int .i64 (n / 10)] w fun e w' => e = .returned (.string a) ∧ Below w.heap.size w w')) :
    Calls Tryd.prog 41 #[.int .i64 n] w fun e w' => e = .returned (.string ⟨(Lib.decDigits n.toNat).toArray⟩) ∧ Below w.heap.size w w' := by
  have E := Lib.hid (show (⟨(Lib.decDigits n.toNat).toArray⟩ : ByteArray) = a ++ ⟨#[UInt8.ofNat (48 + n % 10).toNat]⟩ by rw [cat_one, dec_big h0, ← ha])
  have k1 : decide (n < 0) = false := by simp; omega
  have k2 : decide (n < 10) = false := by simp; omega
  have t1 : n.tdiv 10 = n / 10 := Int.tdiv_eq_ediv_of_nonneg (by omega)
  have t2 : IntKind.i64.wrap (n / 10) = n / 10 := by simp [IntKind.wrap, IntKind.bits, IntKind.signed]; omega
  have t3 : IntKind.i64.wrap (48 + n % 10) = 48 + n % 10 := by simp [IntKind.wrap, IntKind.bits, IntKind.signed]; omega
  have t4 : IntKind.u8.wrap (48 + n % 10) = 48 + n % 10 := by simp [IntKind.wrap, IntKind.bits, IntKind.signed]; omega
  have t5 : IntKind.i64.wrap (n % 10) = n % 10 := by simp [IntKind.wrap, IntKind.bits, IntKind.signed]; omega
  have k3 : n.tmod 10 = n % 10 := Int.tmod_eq_emod_of_nonneg (by omega)
  have n1 : ¬ 9223372036854775807 < a.size + 1 := by omega
  have cv := fun w t => conv_new w (48 + n % 10) (by omega) (by omega) t
  have cd := fun w t => conv_drew w (48 + n % 10) (by omega) (by omega) t
  clear ha
  have g0 : 0 ≤ 48 + n % 10 := by omega
  have g1 : 48 + n % 10 < 256 := by omega
  go_enter Tryd.func41, Tryd.ntmps41
  go_wp2_with fail
  go_region_with (go_simp; go_at_call 41; (refine (IH.out _).mono ?_); rintro e w1 ⟨rfl, hb⟩; first | (with_reducible have cw := conv_after g0 g1 hb) | skip)
  all_goals go_wp2
  all_goals go_ret
  all_goals refine ⟨by rw [E.out]; rfl, ?_⟩
  all_goals first
    | exact (((Below.refl w.heap.size w).drew).trans hb).alloc (((Below.refl w.heap.size w).drew).trans hb).size _
    | exact (((Below.refl w.heap.size w).alloc (Nat.le_refl _) _).drew).trans (hb.mono (by simp))
theorem dec_len {n : Int} (h0 : 0 ≤ n) (h1 : n ≤ 9223372036854775807) : (⟨(Lib.decDigits n.toNat).toArray⟩ : ByteArray).size ≤ 21 := by
  have := Lib.itoa_length_le n (by omega) h1
  unfold Lib.itoa at this
  rw [if_neg (by omega)] at this
  show (Lib.decDigits n.toNat).toArray.size ≤ 21
  simpa using this
theorem decimal_nn (k : Nat) : ∀ (n : Int) (w : World), 0 ≤ n → n.toNat ≤ k → n ≤ 9223372036854775807 →
    Calls Tryd.prog 41 #[.int .i64 n] w fun e w' => e = .returned (.string ⟨(Lib.decDigits n.toNat).toArray⟩) ∧ Below w.heap.size w w' := by
  induction k with
  | zero => intro n w h0 h1 h2; exact decimal_small n w h0 (by omega)
  | succ k ih =>
    intro n w h0 h1 h2
    by_cases h : n < 10
    · exact decimal_small n w h0 h
    · have hl := dec_len (n := n / 10) (by omega) (by omega)
      exact decimal_big n _ w (by omega) h2 (by omega) rfl (Lib.hid (fun w => ih (n / 10) w (by omega) (by omega) (by omega)))
set_option maxHeartbeats 1000000 in
set_option maxRecDepth 100000 in
theorem decimal_any (n : Int) (w : World) (h0 : -9223372036854775807 ≤ n) (h1 : n ≤ 9223372036854775807) :
    Calls Tryd.prog 41 #[.int .i64 n] w fun e w' => e = .returned (.string ⟨(Lib.itoa n).toArray⟩) ∧ Below w.heap.size w w' := by
  by_cases h : n < 0
  · obtain ⟨a, ha⟩ : ∃ a : ByteArray, (⟨(Lib.decDigits (-n).toNat).toArray⟩ : ByteArray) = a := ⟨_, rfl⟩
    have la := dec_len (n := -n) (by omega) (by omega)
    have IH := Lib.hid (fun w => decimal_nn (-n).toNat (-n) w (by omega) (Nat.le_refl _) (by omega))
    rw [ha] at la IH
    have E := Lib.hid (show (⟨(Lib.itoa n).toArray⟩ : ByteArray) = ⟨#[45]⟩ ++ a by
      rw [← ha]; unfold Lib.itoa; rw [if_pos h, show n.natAbs = (-n).toNat by omega]
      apply ByteArray.ext
      rw [ByteArray.data_append]
      apply Array.ext'
      simp)
    have k1 : decide (n < 0) = true := by simpa using h
    have n1 : ¬ 9223372036854775807 < 1 + a.size := by omega
    clear ha
    go_enter Tryd.func41, Tryd.ntmps41
    go_wp2_with fail
    refine (IH.out _).mono ?_
    rintro e w1 ⟨rfl, hb⟩
    go_wp2
    go_ret
    exact ⟨by rw [E.out]; rfl, hb⟩
  · have := decimal_nn n.toNat n w (by omega) (Nat.le_refl _) h1
    unfold Lib.itoa
    rw [if_neg h]
    exact this
def DigR (t : ByteArray) (s4 s5 : Value) : Prop := ∃ k : Nat, k ≤ t.size ∧ s5 = .int .i64 k ∧ s4 = .int .i64 (valD 1000000000 (t.data.toList.take k)) ∧ Hid ((t.data.toList.take k).all isDig = true)
theorem rDig_bad (t : ByteArray) (k : Nat) (hk : k < t.size) (h : isDig t[k] = false) : rDig t.data.toList = (0, false) := by
  unfold rDig; rw [if_neg (by rw [notall t k hk h]; decide)]
theorem rDig_good (t : ByteArray) (ha : t.data.toList.all isDig = true) (b : Bool) (hb : b = (decide (t.size = 1) || (decide (1 < t.size) && !decide (((t.data.toList.headD 0).toNat : Int) = 48)))) : rDig t.data.toList = (valD 1000000000 t.data.toList, b) := by
  unfold rDig; rw [if_pos ha, len_data, hb]
set_option maxHeartbeats 2000000 in
set_option maxRecDepth 100000 in
theorem digits_ref (t : ByteArray) (w : World) (hs : t.size ≤ 9223372036854775807) :
    Calls Tryd.prog 46 #[.string t] w fun e w' => e = .returned (.tuple #[.int .i64 (rDig t.data.toList).1, .bool (rDig t.data.toList).2]) ∧ Below w.heap.size w w' := by
  have BAD := Lib.hid (rDig_bad t)
  have GOOD := Lib.hid (rDig_good t)
  go_enter Tryd.func46, Tryd.ntmps46
  go_wp2
  go_loop [4, 5] (DigR t) (fun _ i => t.size - (intOf i).toNat)
  case atStart => exact ⟨0, Nat.zero_le _, rfl, rfl, (rfl : (t.data.toList.take 0).all isDig = true)⟩
  case round =>
    obtain ⟨k, hk, rfl, rfl, hd⟩ := hrel
    obtain ⟨v0, v1⟩ := valD_bd (cap := 1000000000) (by decide) _ hd.out
    by_cases hlt : k < t.size
    · have HS := Lib.hid (take_snoc t k hlt)
      go_wp2
      · go_ret2
        exact ⟨ret_ib _ (BAD.out k hlt (by unfold isDig; simp; omega)) rfl rfl, Below.refl _ _⟩
      · go_round
        case rel =>
          refine ⟨k + 1, by omega, by go_num, ?_, ?_⟩
          · rw [HS.out, valD_snoc]; first | rfl | (unfold valStep; congr 2; omega)
          · show (t.data.toList.take (k + 1)).all isDig = true
            rw [HS.out, List.all_append, hd.out]
            simp [isDig]; omega
        case measure => simp [intOf]; omega
      · go_ret2
        exact ⟨ret_ib _ (BAD.out k hlt (by unfold isDig; simp; omega)) rfl rfl, Below.refl _ _⟩
    · have e : t.data.toList.take k = t.data.toList := List.take_of_length_le (by rw [len_data]; omega)
      have E := Lib.hid e
      have G := Lib.hid (GOOD.out (by rw [← e]; exact hd.out))
      clear e
      by_cases h1 : t.size = 1
      · have HB := Lib.hid (G.out true (by simp [h1]))
        have f1 : ((t.size : Int) == 1) = true := by rw [beq_iff_eq]; omega
        clear h1
        go_wp2_with fail
        go_quiet (fail)
        go_wp2
        go_ret2
        exact ⟨ret_ib _ HB.out (by rw [E.out]) rfl, below_drewN (Below.refl _ _) _⟩
      · have f1 : ((t.size : Int) == 1) = false := by rw [beq_eq_false_iff_ne]; omega
        by_cases h2 : 1 < t.size
        · have hp : 0 < t.size := by omega
          have f2 : decide (1 < (t.size : Int)) = true := by rw [decide_eq_true_iff]; omega
          have f2' : decide (1 < t.size) = true := by simpa using h2
          have hh := head_of t (by omega)
          by_cases h3 : (t[0].toNat : Int) = 48
          · have HB := Lib.hid (G.out false (by rw [hh]; simp [h1, h3]))
            have f3 : ((t[0].toNat : Int) != 48) = false := by simpa using h3
            clear h3 hh
            go_wp2_with fail
            go_quiet (fail)
            go_wp2
            go_ret2
            exact ⟨ret_ib _ HB.out (by rw [E.out]) rfl, below_drewN (Below.refl _ _) _⟩
          · have HB := Lib.hid (G.out true (by rw [hh]; simp [h2, h3]))
            have f3 : ((t[0].toNat : Int) != 48) = true := by simpa using h3
            clear h3 hh
            go_wp2_with fail
            go_quiet (fail)
            go_wp2
            go_ret2
            exact ⟨ret_ib _ HB.out (by rw [E.out]) rfl, below_drewN (Below.refl _ _) _⟩
        · have f2 : decide (1 < (t.size : Int)) = false := by rw [decide_eq_false_iff_not]; omega
          have f2' : decide (1 < t.size) = false := by simpa using h2
          have HB := Lib.hid (G.out false (by simp [h1, h2]))
          go_wp2_with fail
          go_quiet (fail)
          go_wp2
          go_ret2
          exact ⟨ret_ib _ HB.out (by rw [E.out]) rfl, below_drewN (Below.refl _ _) _⟩
theorem rDig_bd (l : List UInt8) : 0 ≤ (rDig l).1 ∧ (rDig l).1 ≤ 1000000000 := by
  unfold rDig
  split
  · rename_i h
    exact valD_bd (by decide) l h
  · exact ⟨by decide, by decide⟩
theorem fmt_any (n : Int) (w : World) (hE : Env w) (h0 : -9223372036854775808 ≤ n) (h1 : n ≤ 9223372036854775807) :
    Calls Tryd.prog 40 #[.int .i64 n, .int .i64 10] w fun e w' => e = .returned (.string ⟨(Lib.itoa n).toArray⟩) ∧ Below w.heap.size w w' :=
  (Tryd.strconv_FormatInt_10 n h0 h1 w hE.tab).mono fun e w' ⟨he, k, os, hw⟩ => ⟨he, by rw [hw]; exact Lib.below_grow _ w (Nat.le_refl _) k os⟩
theorem itoa_nn {n : Int} (h : 0 ≤ n) : Lib.itoa n = Lib.decDigits n.toNat := by
  unfold Lib.itoa
  rw [if_neg (by omega)]
def NumR (t : ByteArray) (s4 s5 : Value) : Prop := ∃ k : Nat, k ≤ t.size ∧ s5 = .int .i64 k ∧ s4 = .int .i64 (valD 10000 (t.data.toList.take k)) ∧ Hid ((t.data.toList.take k).all isDig = true)
theorem digF_bad (t : ByteArray) (k : Nat) (hk : k < t.size) (h : isDig t[k] = false) : digF 10000 t.data.toList = (0, false) := digF_no (notall t k hk h)
set_option maxHeartbeats 2000000 in
set_option maxRecDepth 100000 in
theorem number_any (t : ByteArray) (w : World) (hs : t.size ≤ 9223372036854775807) :
    Calls Tryd.prog 60 #[.string t] w fun e w' => e = .returned (.tuple #[.int .i64 (digF 10000 t.data.toList).1, .bool (digF 10000 t.data.toList).2]) ∧ w = w' := by
  have BAD := Lib.hid (digF_bad t)
  go_enter Tryd.func60, Tryd.ntmps60
  go_wp2
  go_loop [4, 5] (NumR t) (fun _ i => t.size - (intOf i).toNat)
  case atStart => exact ⟨0, Nat.zero_le _, rfl, rfl, (rfl : (t.data.toList.take 0).all isDig = true)⟩
  case round =>
    obtain ⟨k, hk, rfl, rfl, hd⟩ := hrel
    obtain ⟨v0, v1⟩ := valD_bd (cap := 10000) (by decide) _ hd.out
    by_cases hlt : k < t.size
    · have HS := Lib.hid (take_snoc t k hlt)
      go_wp2
      · go_ret2
        exact ⟨ret_ib _ (BAD.out k hlt (by unfold isDig; simp; omega)) rfl rfl, rfl⟩
      · go_round
        case rel =>
          refine ⟨k + 1, by omega, by go_num, ?_, ?_⟩
          · rw [HS.out, valD_snoc]; first | rfl | (unfold valStep; congr 2; omega)
          · show (t.data.toList.take (k + 1)).all isDig = true
            rw [HS.out, List.all_append, hd.out]
            simp [isDig]; omega
        case measure => simp [intOf]; omega
      · go_ret2
        exact ⟨ret_ib _ (BAD.out k hlt (by unfold isDig; simp; omega)) rfl rfl, rfl⟩
    · have e : t.data.toList.take k = t.data.toList := List.take_of_length_le (by rw [len_data]; omega)
      have E := Lib.hid e
      have G := Lib.hid (show digF 10000 t.data.toList = (valD 10000 t.data.toList, true) by unfold digF; rw [if_pos (by rw [← e]; exact hd.out)])
      clear e
      go_wp2
      go_ret2
      exact ⟨ret_ib _ G.out (by rw [E.out]) rfl, rfl⟩
end Go.Proofs.YtnaokohffelklaaDoor
