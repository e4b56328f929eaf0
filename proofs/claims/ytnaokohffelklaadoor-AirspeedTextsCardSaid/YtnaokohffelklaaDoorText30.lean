/-
  The walks of layer 30's texts, the program's and the reference's.
-/
import Derived.Test.YtnaokohffelklaaDoorDigits30
import Derived.Test.YtnaokohffelklaaDoorSpeedRef
namespace Go.Proofs.YtnaokohffelklaaDoor
set_option linter.unusedVariables false
open Go.RowKit

def RetS (r : List UInt8 × Int) (w : World) (e : Ending) (w' : World) : Prop := e = .returned (.tuple #[.string ⟨r.1.toArray⟩, .int .i64 r.2]) ∧ Below w.heap.size w w'
def ctF (v : Int) : List UInt8 × Int := if witB v 1000 = true then (casT v, 0) else ([], 1)
def mtF (m : Int) : List UInt8 × Int := if witB m 2000 = true then (machT m, 0) else ([], 1)
theorem kt_cat (a : ByteArray) : a ++ ⟨#[75, 84]⟩ = ⟨(a.data.toList ++ [75, 84]).toArray⟩ := by
  apply ByteArray.ext
  rw [ByteArray.data_append]
  apply Array.ext'
  simp
theorem fmt_at {n : Int} {a : ByteArray} (h0 : 0 ≤ n) (h1 : n ≤ 9223372036854775807) (ha : (⟨(Lib.decDigits n.toNat).toArray⟩ : ByteArray) = a) (w : World) (hE : Env w) :
    Calls Tryd.prog 40 #[.int .i64 n, .int .i64 10] w fun e w' => e = .returned (.string a) ∧ Below w.heap.size w w' := by
  have := fmt_any n w hE (by omega) h1
  rwa [itoa_nn h0, ha] at this
theorem dec_at {n : Int} {a : ByteArray} (h0 : 0 ≤ n) (h1 : n ≤ 9223372036854775807) (ha : (⟨(Lib.decDigits n.toNat).toArray⟩ : ByteArray) = a) (w : World) :
    Calls Tryd.prog 41 #[.int .i64 n] w fun e w' => e = .returned (.string a) ∧ Below w.heap.size w w' := by
  have := decimal_any n w (by omega) h1
  rwa [itoa_nn h0, ha] at this
theorem casText_any (v : Int) (w : World) (hE : Env w) : Calls Tryd.prog 23 #[.int .i64 v] w (RetS (ctF v) w) := by
  have HC := fun w => within_any v 1000 w
  cases hc : witB v 1000 with
  | false =>
    rw [hc] at HC
    have HC1 := Lib.hid HC
    have E := Lib.hid (show ctF v = ([], 1) by unfold ctF; simp [hc])
    clear hc HC
    go_enter Tryd.func23, Tryd.ntmps23
    go_wp2_with (go_at_call 29; refine (HC1.out _).mono ?_; rintro e w1 ⟨rfl, rfl⟩)
    go_ret2
    exact ⟨by rw [E.out]; rfl, Below.refl _ _⟩
  | true =>
    obtain ⟨c0, c1⟩ := wit_iff.1 hc
    rw [hc] at HC
    have HC1 := Lib.hid HC
    clear HC
    obtain ⟨a, ha⟩ : ∃ a : ByteArray, (⟨(Lib.decDigits v.toNat).toArray⟩ : ByteArray) = a := ⟨_, rfl⟩
    have la := dec_len (n := v) c0 (by omega)
    have FM := Lib.hid (fmt_at c0 (by omega) ha)
    rw [ha] at la
    have E := Lib.hid (show ctF v = (a.data.toList ++ [75, 84], 0) by unfold ctF casT; rw [if_pos hc, ← ha])
    have HE := Lib.hid hE
    have n1 : ¬ 9223372036854775807 < a.size + 2 := by omega
    clear hc ha hE
    go_enter Tryd.func23, Tryd.ntmps23
    go_wp2_with (first
      | (go_at_call 29; refine (HC1.out _).mono ?_; rintro e w1 ⟨rfl, rfl⟩)
      | (go_at_call 40; refine (FM.out _ HE.out).mono ?_; rintro e w2 ⟨rfl, hb⟩))
    go_ret2
    exact ⟨by rw [E.out, ← kt_cat]; rfl, hb⟩
theorem rcasText_any (v : Int) (w : World) : Calls Tryd.prog 24 #[.int .i64 v] w (RetS (ctF v) w) := by
  have HC := fun w => calib_any v w
  cases hc : witB v 1000 with
  | false =>
    rw [hc] at HC
    have HC1 := Lib.hid HC
    have E := Lib.hid (show ctF v = ([], 1) by unfold ctF; simp [hc])
    clear hc HC
    go_enter Tryd.func24, Tryd.ntmps24
    go_wp2_with (go_at_call 31; refine (HC1.out _).mono ?_; rintro e w1 ⟨rfl, rfl⟩)
    go_ret2
    exact ⟨by rw [E.out]; rfl, Below.refl _ _⟩
  | true =>
    obtain ⟨c0, c1⟩ := wit_iff.1 hc
    rw [hc] at HC
    have HC1 := Lib.hid HC
    clear HC
    obtain ⟨a, ha⟩ : ∃ a : ByteArray, (⟨(Lib.decDigits v.toNat).toArray⟩ : ByteArray) = a := ⟨_, rfl⟩
    have la := dec_len (n := v) c0 (by omega)
    have FM := Lib.hid (dec_at c0 (by omega) ha)
    rw [ha] at la
    have E := Lib.hid (show ctF v = (a.data.toList ++ [75, 84], 0) by unfold ctF casT; rw [if_pos hc, ← ha])
    have n1 : ¬ 9223372036854775807 < a.size + 2 := by omega
    clear hc ha
    go_enter Tryd.func24, Tryd.ntmps24
    go_wp2_with (first
      | (go_at_call 31; refine (HC1.out _).mono ?_; rintro e w1 ⟨rfl, rfl⟩)
      | (go_at_call 41; refine (FM.out _).mono ?_; rintro e w2 ⟨rfl, hb⟩))
    go_ret2
    exact ⟨by rw [E.out, ← kt_cat]; rfl, hb⟩
theorem ext_drop (s : ByteArray) (k : Nat) : (s.extract k s.size).data.toList = s.data.toList.drop k := by
  rw [ByteArray.data_extract, Array.toList_extract]
  simp [List.extract]
  rw [List.take_of_length_le (by simp)]
theorem ext_take (s : ByteArray) (k : Nat) : (s.extract 0 k).data.toList = s.data.toList.take k := by
  rw [ByteArray.data_extract, Array.toList_extract]
  simp [List.extract]
theorem mach_cat (m : Int) (a r : ByteArray) (ha : a.data.toList = wholeT m) (hr : r.data.toList = Lib.decDigits (1000 + m % 1000).toNat) :
    (⟨#[77]⟩ : ByteArray) ++ a ++ ⟨#[46]⟩ ++ r.extract 1 r.size = ⟨(machT m).toArray⟩ := by
  apply ByteArray.ext
  rw [ByteArray.data_append, ByteArray.data_append, ByteArray.data_append]
  apply Array.ext'
  rw [Array.toList_append, Array.toList_append, Array.toList_append, ext_drop, ha, hr]
  unfold machT
  simp
theorem mach_low (m : Int) (r : ByteArray) (h : m < 1000) (hr : r.data.toList = Lib.decDigits (1000 + m % 1000).toNat) :
    (⟨#[77, 46]⟩ : ByteArray) ++ r.extract 1 r.size = ⟨(machT m).toArray⟩ := by
  rw [← mach_cat m ⟨#[]⟩ r (by unfold wholeT; rw [if_neg (by omega)]) hr]
  rfl
set_option maxRecDepth 100000 in
theorem machText_any (m : Int) (w : World) (hE : Env w) : Calls Tryd.prog 26 #[.int .i64 m] w (RetS (mtF m) w) := by
  have HC := fun w => within_any m 2000 w
  cases hc : witB m 2000 with
  | false =>
    rw [hc] at HC
    have HC1 := Lib.hid HC
    have E := Lib.hid (show mtF m = ([], 1) by unfold mtF; simp [hc])
    clear hc HC
    go_enter Tryd.func26, Tryd.ntmps26
    go_wp2_with (go_at_call 29; refine (HC1.out _).mono ?_; rintro e w1 ⟨rfl, rfl⟩)
    go_ret2
    exact ⟨by rw [E.out]; rfl, Below.refl _ _⟩
  | true =>
    obtain ⟨c0, c1⟩ := wit_iff.1 hc
    rw [hc] at HC
    have HC1 := Lib.hid HC
    clear HC
    have E := Lib.hid (show mtF m = (machT m, 0) by unfold mtF; rw [if_pos hc])
    obtain ⟨r, hr⟩ : ∃ a : ByteArray, (⟨(Lib.decDigits (1000 + m % 1000).toNat).toArray⟩ : ByteArray) = a := ⟨_, rfl⟩
    have lr := dec_len (n := 1000 + m % 1000) (by omega) (by omega)
    have l4 : r.size = 4 := by
      rw [← hr, show (1000 + m % 1000).toNat = 1000 + (m % 1000).toNat by omega, dec_four (by omega)]; rfl
    have hrl : r.data.toList = Lib.decDigits (1000 + m % 1000).toNat := by rw [← hr]
    have FR := Lib.hid (fmt_at (n := 1000 + m % 1000) (by omega) (by omega) hr)
    have HE := Lib.hid hE
    by_cases hm : 1000 ≤ m
    · have g : decide (1000 ≤ m) = true := by simpa using hm
      obtain ⟨a, ha⟩ : ∃ a : ByteArray, (⟨(Lib.decDigits (m / 1000).toNat).toArray⟩ : ByteArray) = a := ⟨_, rfl⟩
      have la := dec_len (n := m / 1000) (by omega) (by omega)
      have FA := Lib.hid (fmt_at (n := m / 1000) (by omega) (by omega) ha)
      have CAT := Lib.hid (mach_cat m a r (by rw [← ha]; unfold wholeT; rw [if_pos hm]) hrl)
      rw [ha] at la
      have n0 : ¬ 9223372036854775807 < 1 + a.size := by omega
      have n1 : ¬ 9223372036854775807 < 1 + a.size + 1 := by omega
      have n2 : ¬ 9223372036854775807 < 1 + a.size + 1 + 3 := by omega
      have L4 := Lib.hid l4
      have n3 : 1 ≤ r.size := by omega
      have n4 : r.size ≤ 4 := by omega
      have n5 : ¬ 9223372036854775807 < 1 + a.size + 1 + (r.size - 1) := by omega
      clear hc hr hrl hE ha lr l4
      go_enter Tryd.func26, Tryd.ntmps26
      go_wp2_with (first
        | (go_at_call 29; refine (HC1.out _).mono ?_; rintro e w1 ⟨rfl, rfl⟩)
        | (go_at_call 40; refine (FA.out _ HE.out).mono ?_; rintro e w2 ⟨rfl, hb⟩)
        | (go_at_call 40; refine (FR.out _ (HE.out.below hb)).mono ?_; rintro e w3 ⟨rfl, hb2⟩))
      go_ret2
      exact ⟨by rw [E.out, ← CAT.out]; rfl, hb.trans (hb2.mono hb.size)⟩
    · have g : decide (1000 ≤ m) = false := by simpa using hm
      have CAT := Lib.hid (mach_low m r (by omega) hrl)
      have n3 : 1 ≤ r.size := by omega
      have n4 : r.size ≤ 4 := by omega
      have n5 : ¬ 9223372036854775807 < 2 + (r.size - 1) := by omega
      clear hc hr hrl hE lr l4
      go_enter Tryd.func26, Tryd.ntmps26
      go_wp2_with (first
        | (go_at_call 29; refine (HC1.out _).mono ?_; rintro e w1 ⟨rfl, rfl⟩)
        | (go_at_call 40; refine (FR.out _ HE.out).mono ?_; rintro e w3 ⟨rfl, hb⟩))
      go_ret2
      exact ⟨by rw [E.out, ← CAT.out]; rfl, hb⟩
set_option maxRecDepth 100000 in
theorem rmachText_any (m : Int) (w : World) : Calls Tryd.prog 27 #[.int .i64 m] w (RetS (mtF m) w) := by
  cases hc : witB m 2000 with
  | false =>
    have E := Lib.hid (show mtF m = ([], 1) by unfold mtF; simp [hc])
    have hn : ¬ (0 ≤ m ∧ m ≤ 2000) := fun h => by rw [wit_iff.2 h] at hc; cases hc
    clear hc
    by_cases h0 : m < 0
    · have g : decide (m < 0) = true := by simpa using h0
      clear hn
      go_enter Tryd.func27, Tryd.ntmps27
      go_wp2
      go_ret2
      exact ⟨by rw [E.out]; rfl, Below.refl _ _⟩
    · have g : decide (m < 0) = false := by simpa using h0
      have g2 : decide (2000 < m) = true := by simp; omega
      clear hn
      go_enter Tryd.func27, Tryd.ntmps27
      go_wp2
      go_ret2
      exact ⟨by rw [E.out]; rfl, Below.refl _ _⟩
  | true =>
    obtain ⟨c0, c1⟩ := wit_iff.1 hc
    have g1 : decide (m < 0) = false := by simp; omega
    have g2 : decide (2000 < m) = false := by simp; omega
    have E := Lib.hid (show mtF m = (machT m, 0) by unfold mtF; rw [if_pos hc])
    obtain ⟨r, hr⟩ : ∃ a : ByteArray, (⟨(Lib.decDigits (m % 1000 + 1000).toNat).toArray⟩ : ByteArray) = a := ⟨_, rfl⟩
    have hrl : r.data.toList = Lib.decDigits (1000 + m % 1000).toNat := by rw [← hr, Int.add_comm]
    have l4 : r.size = 4 := by
      rw [← hr, show (m % 1000 + 1000).toNat = 1000 + (m % 1000).toNat by omega, dec_four (by omega)]; rfl
    have FR := Lib.hid (dec_at (n := m % 1000 + 1000) (by omega) (by omega) hr)
    by_cases hm : 1000 ≤ m
    · have g : decide (1000 ≤ m) = true := by simpa using hm
      obtain ⟨a, ha⟩ : ∃ a : ByteArray, (⟨(Lib.decDigits (m / 1000).toNat).toArray⟩ : ByteArray) = a := ⟨_, rfl⟩
      have la := dec_len (n := m / 1000) (by omega) (by omega)
      have FA := Lib.hid (dec_at (n := m / 1000) (by omega) (by omega) ha)
      have CAT := Lib.hid (mach_cat m a r (by rw [← ha]; unfold wholeT; rw [if_pos hm]) hrl)
      rw [ha] at la
      have n0 : ¬ 9223372036854775807 < 1 + a.size := by omega
      have n1 : ¬ 9223372036854775807 < 1 + a.size + 1 := by omega
      have n3 : 1 ≤ r.size := by omega
      have n4 : r.size ≤ 4 := by omega
      have n5 : ¬ 9223372036854775807 < 1 + a.size + 1 + (r.size - 1) := by omega
      clear hc hr hrl ha l4
      go_enter Tryd.func27, Tryd.ntmps27
      go_wp2_with (first
        | (go_at_call 41; (with_reducible refine (FA.out _).mono ?_); rintro e w2 ⟨rfl, hb⟩)
        | (go_at_call 41; (with_reducible refine (FR.out _).mono ?_); rintro e w3 ⟨rfl, hb2⟩))
      go_ret2
      exact ⟨by rw [E.out, ← CAT.out]; rfl, hb.trans (hb2.mono hb.size)⟩
    · have g : decide (1000 ≤ m) = false := by simpa using hm
      have CAT := Lib.hid (mach_low m r (by omega) hrl)
      have n3 : 1 ≤ r.size := by omega
      have n4 : r.size ≤ 4 := by omega
      have n5 : ¬ 9223372036854775807 < 2 + (r.size - 1) := by omega
      clear hc hr hrl l4
      go_enter Tryd.func27, Tryd.ntmps27
      go_wp2_with (go_at_call 41; refine (FR.out _).mono ?_; rintro e w3 ⟨rfl, hb⟩)
      go_ret2
      exact ⟨by rw [E.out, ← CAT.out]; rfl, hb⟩
end Go.Proofs.YtnaokohffelklaaDoor
