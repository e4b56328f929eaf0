/-
  The walk of the reference's Parse of layer 30.
-/
import Derived.Test.YtnaokohffelklaaDoorParse30
namespace Go.Proofs.YtnaokohffelklaaDoor
set_option linter.unusedVariables false
open Go.RowKit

theorem dref {t : ByteArray} {v : Int} {ok : Bool} (h : rDig t.data.toList = (v, ok)) (hs : t.size ≤ 9223372036854775807) (w : World) :
    Calls Tryd.prog 46 #[.string t] w fun e w' => e = .returned (.tuple #[.int .i64 v, .bool ok]) ∧ Below w.heap.size w w' := by
  have := digits_ref t w hs
  rw [h] at this
  exact this
theorem one_cat (a : ByteArray) : ((⟨#[49]⟩ : ByteArray) ++ a).data.toList = 49 :: a.data.toList := by
  rw [ByteArray.data_append, Array.toList_append]; rfl
theorem ext_mid (s : ByteArray) (k : Nat) (h : k ≤ s.size) : (s.extract 1 k).data.toList = (s.data.toList.drop 1).take (k - 1) := by
  rw [ByteArray.data_extract, Array.toList_extract]
theorem getD_at (s : ByteArray) (k : Nat) (h : k < s.size) : s.data.toList.getD k 0 = s[k] := by
  rw [List.getD_eq_getElem?_getD, List.getElem?_eq_getElem (by rw [len_data]; exact h)]; rfl
theorem byte_ne (c : UInt8) (k : Nat) (hk : k < 256) : c ≠ UInt8.ofNat k ↔ ¬ (c.toNat : Int) = k := by
  constructor
  · intro h e
    apply h
    apply UInt8.toNat_inj.1
    rw [UInt8.toNat_ofNat']
    omega
  · intro h e
    apply h
    rw [e, UInt8.toNat_ofNat']
    omega
set_option maxHeartbeats 2000000 in
set_option maxRecDepth 100000 in
/-- a text that ends in KT -/
theorem rparse_kt (s : ByteArray) (w : World) (hs : s.size < 9223372036854775808) (h2 : 2 < s.size) (hk : s.data.toList.drop (s.size - 2) = [75, 84]) :
    Calls Tryd.prog 28 #[.string s] w (RetV (rParseA s.data.toList) w) := by
  have g1 : decide (2 < s.size) = true := by simpa using h2
  have g1' : decide (2 < (s.size : Int)) = true := by simp; omega
  have e2 : ((s.size : Int) - 2).toNat = s.size - 2 := by omega
  have g2 : ((s.extract (s.size - 2) s.size).toList == [75, 84]) = true := by rw [Lib.toList_data, ext_drop, hk]; rfl
  obtain ⟨a, ha⟩ : ∃ a, s.extract 0 (s.size - 2) = a := ⟨_, rfl⟩
  have hal : a.data.toList = s.data.toList.take (s.size - 2) := by rw [← ha, ext_take]
  have la : a.size ≤ 9223372036854775807 := by rw [← len_data, hal, List.length_take, len_data]; omega
  have P0 : rParseA s.data.toList = rCas a.data.toList := by
    unfold rParseA
    rw [len_data, if_pos ⟨h2, hk⟩, hal]
  obtain ⟨v, ok, hd⟩ : ∃ v ok, rDig a.data.toList = (v, ok) := ⟨_, _, rfl⟩
  have D := Lib.hid fun w => dref hd la w
  have HA := Lib.hid ha
  unfold rCas at P0
  rw [hd] at P0
  clear hk ha hal hd
  cases ok with
  | false =>
    have P := Lib.hid (show rParseA s.data.toList = (0, false, 4) by rw [P0]; rfl)
    clear P0
    go_enter Tryd.func28, Tryd.ntmps28
    go_wp2_with (go_at_call 46; rw [HA.out]; refine (D.out _).mono ?_; rintro e w1 ⟨rfl, hb⟩)
    go_ret3
    exact ⟨by rw [P.out]; rfl, hb⟩
  | true =>
    by_cases h : 1000 < v
    · have P := Lib.hid (show rParseA s.data.toList = (0, false, 2) by rw [P0, if_neg (by simp), if_pos h])
      have g3 : decide (1000 < v) = true := by simpa using h
      clear P0 h
      go_enter Tryd.func28, Tryd.ntmps28
      go_wp2_with (go_at_call 46; rw [HA.out]; refine (D.out _).mono ?_; rintro e w1 ⟨rfl, hb⟩)
      go_ret3
      exact ⟨by rw [P.out]; rfl, hb⟩
    · have P := Lib.hid (show rParseA s.data.toList = (v, false, 0) by rw [P0, if_neg (by simp), if_neg h])
      have g3 : decide (1000 < v) = false := by simpa using h
      clear P0 h
      go_enter Tryd.func28, Tryd.ntmps28
      go_wp2_with (go_at_call 46; rw [HA.out]; refine (D.out _).mono ?_; rintro e w1 ⟨rfl, hb⟩)
      go_ret3
      exact ⟨by rw [P.out]; rfl, hb⟩
/-- the first test's facts in a text that does not end in KT -/
def NoKT (s : ByteArray) : Prop := ¬ (2 < s.size ∧ s.data.toList.drop (s.size - 2) = [75, 84])
set_option maxHeartbeats 4000000 in
set_option maxRecDepth 100000 in
/-- a text that is short, or has no M in front, or no point -/
theorem rparse_no (s : ByteArray) (w : World) (hs : s.size < 9223372036854775808) (hk : NoKT s) (hq : s.size < 5 ∨ s.data.toList.headD 0 ≠ 77 ∨ s.data.toList.getD (s.size - 4) 0 ≠ 46) :
    Calls Tryd.prog 28 #[.string s] w (RetV (rParseA s.data.toList) w) := by
  have P := Lib.hid (show rParseA s.data.toList = (0, false, 4) by
    unfold rParseA
    rw [len_data, if_neg hk, if_pos hq])
  have e2 : ((s.size : Int) - 2).toNat = s.size - 2 := by omega
  by_cases h2 : 2 < s.size
  · have g1 : decide (2 < s.size) = true := by simpa using h2
    have g1' : decide (2 < (s.size : Int)) = true := by simp; omega
    have g2 : ((s.extract (s.size - 2) s.size).toList == [75, 84]) = false := by
      rw [Lib.toList_data, ext_drop]
      cases e : s.data.toList.drop (s.size - 2) == [75, 84]
      · rfl
      · exact absurd ⟨h2, by simpa using e⟩ hk
    clear hk
    by_cases h5 : s.size < 5
    · have g5 : decide (s.size < 5) = true := by simpa using h5
      have g5' : decide ((s.size : Int) < 5) = true := by simp; omega
      clear hq
      go_enter Tryd.func28, Tryd.ntmps28
      go_wp2
      go_ret3
      exact ⟨by rw [P.out]; rfl, Below.refl _ _⟩
    · have g5 : decide (s.size < 5) = false := by simpa using h5
      have g5' : decide ((s.size : Int) < 5) = false := by simp; omega
      have hp : 0 < s.size := by omega
      by_cases h6 : (s[0].toNat : Int) = 77
      · have g6 : ((s[0].toNat : Int) != 77) = false := by simpa using h6
        obtain ⟨j, hj⟩ : ∃ j, s.size = j + 4 := ⟨s.size - 4, by omega⟩
        have hjs : j < s.size := by omega
        have e4 : ((s.size : Int) - 4).toNat = j := by omega
        have e4' : (s.size : Int) - 4 = j := by omega
        have h7 : ¬ (s[j].toNat : Int) = 46 := by
          rcases hq with h | h | h
          · exact absurd h h5
          · rw [head_of s hp] at h
            exact absurd h6 ((byte_ne _ 77 (by decide)).1 h)
          · rw [show s.size - 4 = j by omega, getD_at s j hjs] at h
            exact (byte_ne _ 46 (by decide)).1 h
        have g7 : ((s[j].toNat : Int) != 46) = true := by simpa using h7
        have z4 : 0 ≤ (s.size : Int) - 4 := by omega
        have z5 : (s.size : Int) - 4 < s.size := by omega
        clear hq h6 h7 hj
        go_enter Tryd.func28, Tryd.ntmps28
        go_wp2
        go_ret3
        exact ⟨by rw [P.out]; rfl, Below.refl _ _⟩
      · have g6 : ((s[0].toNat : Int) != 77) = true := by simpa using h6
        clear hq h6
        go_enter Tryd.func28, Tryd.ntmps28
        go_wp2
        go_ret3
        exact ⟨by rw [P.out]; rfl, Below.refl _ _⟩
  · have g1 : decide (2 < s.size) = false := by simpa using h2
    have g1' : decide (2 < (s.size : Int)) = false := by simp; omega
    have g5 : decide (s.size < 5) = true := by simp; omega
    have g5' : decide ((s.size : Int) < 5) = true := by simp; omega
    clear hk hq
    go_enter Tryd.func28, Tryd.ntmps28
    go_wp2
    go_ret3
    exact ⟨by rw [P.out]; rfl, Below.refl _ _⟩
structure IsM (s : ByteArray) : Prop where
  no : NoKT s
  five : 5 ≤ s.size
  m : s.data.toList.headD 0 = 77
  pt : s.data.toList.getD (s.size - 4) 0 = 46
theorem tail_lt (s : ByteArray) (k : Nat) (hk : k ≤ s.size) (h3 : s.size - k = 3) : (s.extract k s.size).size = 3 := by rw [ByteArray.size_extract]; omega
set_option maxHeartbeats 8000000 in
set_option maxRecDepth 100000 in
/-- a text with an M in front and a point before the last three bytes -/
theorem rparse_m (s : ByteArray) (w : World) (hs : s.size < 9223372036854775808) (hm : IsM s) :
    Calls Tryd.prog 28 #[.string s] w (RetV (rParseA s.data.toList) w) := by
  obtain ⟨hk, h5, h77, h46⟩ := hm
  have h2 : 2 < s.size := by omega
  have hp : 0 < s.size := by omega
  have P0 : rParseA s.data.toList = rMach ((s.data.toList.drop 1).take (s.size - 5)) (s.data.toList.drop (s.size - 3)) := by
    unfold rParseA
    rw [len_data, if_neg hk, if_neg]
    rintro (h | h | h)
    · omega
    · exact h h77
    · exact h h46
  have e2 : ((s.size : Int) - 2).toNat = s.size - 2 := by omega
  have e3 : ((s.size : Int) - 3).toNat = s.size - 3 := by omega
  have g1 : decide (2 < s.size) = true := by simpa using h2
  have g1' : decide (2 < (s.size : Int)) = true := by simp; omega
  have g2 : ((s.extract (s.size - 2) s.size).toList == [75, 84]) = false := by
    rw [Lib.toList_data, ext_drop]
    cases e : s.data.toList.drop (s.size - 2) == [75, 84]
    · rfl
    · exact absurd ⟨h2, by simpa using e⟩ hk
  have g5 : decide (s.size < 5) = false := by simp; omega
  have g5' : decide ((s.size : Int) < 5) = false := by simp; omega
  have h6 : (s[0].toNat : Int) = 77 := by
    rw [head_of s hp] at h77
    rw [h77]; rfl
  have g6 : ((s[0].toNat : Int) != 77) = false := by simpa using h6
  obtain ⟨j, hj⟩ : ∃ j, s.size = j + 4 := ⟨s.size - 4, by omega⟩
  have hjs : j < s.size := by omega
  have e4 : ((s.size : Int) - 4).toNat = j := by omega
  have e4' : (s.size : Int) - 4 = j := by omega
  have h7 : (s[j].toNat : Int) = 46 := by
    rw [show s.size - 4 = j by omega, getD_at s j hjs] at h46
    rw [h46]; rfl
  have g7 : ((s[j].toNat : Int) != 46) = false := by simpa using h7
  obtain ⟨a, ha⟩ : ∃ a, s.extract (s.size - 3) s.size = a := ⟨_, rfl⟩
  have hal : a.data.toList = s.data.toList.drop (s.size - 3) := by rw [← ha, ext_drop]
  have la : a.size = 3 := by rw [← ha]; exact tail_lt s _ (by omega) (by omega)
  obtain ⟨c, hc⟩ : ∃ c, (⟨#[49]⟩ : ByteArray) ++ a = c := ⟨_, rfl⟩
  have hcl : c.data.toList = 49 :: s.data.toList.drop (s.size - 3) := by rw [← hc, one_cat, hal]
  have lc : c.size ≤ 9223372036854775807 := by rw [← len_data, hcl, ← hal, List.length_cons, len_data]; omega
  obtain ⟨b, hb⟩ : ∃ b, s.extract 1 j = b := ⟨_, rfl⟩
  have hbl : b.data.toList = (s.data.toList.drop 1).take (s.size - 5) := by rw [← hb, ext_mid s j (by omega), show j - 1 = s.size - 5 by omega]
  have lb : b.size ≤ 9223372036854775807 := by rw [← len_data, hbl, List.length_take, List.length_drop, len_data]; omega
  have lb0 : b.data.toList = [] ↔ s.size = 5 := by
    rw [← List.length_eq_zero_iff, hbl, List.length_take, List.length_drop, len_data]; omega
  rw [← hbl] at P0
  unfold rMach at P0
  rw [← hcl] at P0
  have bd1 := rDig_bd c.data.toList
  have bd2 := rDig_bd b.data.toList
  obtain ⟨v, ok, hd1⟩ : ∃ v ok, rDig c.data.toList = (v, ok) := ⟨_, _, rfl⟩
  obtain ⟨u, good, hd2⟩ : ∃ u good, rDig b.data.toList = (u, good) := ⟨_, _, rfl⟩
  have D1 := Lib.hid fun w => dref hd1 lc w
  have D2 := Lib.hid fun w => dref hd2 lb w
  rw [hd1] at P0 bd1
  rw [hd2] at P0 bd2
  obtain ⟨v0, v1⟩ := bd1
  obtain ⟨u0, u1⟩ := bd2
  simp only at v0 v1 u0 u1
  have HA := Lib.hid ha
  have HC := Lib.hid hc
  have HB := Lib.hid hb
  have n1 : ¬ 9223372036854775807 < 1 + a.size := by omega
  have z2 : 0 ≤ (s.size : Int) - 3 := by omega
  have z4 : 0 ≤ (s.size : Int) - 4 := by omega
  have z5 : (s.size : Int) - 4 < s.size := by omega
  have z6 : 1 ≤ j := by omega
  have z7 : j ≤ s.size := by omega
  clear hk h77 h46 h6 h7 ha hal la hc hcl lc hb hbl lb hd1 hd2
  cases ok with
  | false =>
    have P := Lib.hid (show rParseA s.data.toList = (0, false, 4) by rw [P0]; rfl)
    clear P0 lb0 hj
    go_enter Tryd.func28, Tryd.ntmps28
    go_wp2_with (go_at_call 46; rw [HA.out, HC.out]; refine (D1.out _).mono ?_; rintro e w1 ⟨rfl, hb1⟩)
    go_ret3
    exact ⟨by rw [P.out]; rfl, hb1⟩
  | true =>
    rw [if_neg (by simp)] at P0
    by_cases h : s.size = 5
    · have g8 : decide (5 < s.size) = false := by simp; omega
      have g8' : decide (5 < (s.size : Int)) = false := by simp; omega
      rw [if_pos (lb0.2 h)] at P0
      clear lb0 h hj
      by_cases h3 : 2000 < v - 1000
      · have P := Lib.hid (P0.trans (if_pos h3))
        have g9 : decide (2000 < v - 1000) = true := by simpa using h3
        clear P0 h3
        go_enter Tryd.func28, Tryd.ntmps28
        go_wp2_with (go_at_call 46; rw [HA.out, HC.out]; refine (D1.out _).mono ?_; rintro e w1 ⟨rfl, hb1⟩)
        go_ret3
        exact ⟨by rw [P.out]; rfl, hb1⟩
      · have P := Lib.hid (P0.trans (if_neg h3))
        have g9 : decide (2000 < v - 1000) = false := by simpa using h3
        clear P0 h3
        go_enter Tryd.func28, Tryd.ntmps28
        go_wp2_with (go_at_call 46; rw [HA.out, HC.out]; refine (D1.out _).mono ?_; rintro e w1 ⟨rfl, hb1⟩)
        go_ret3
        exact ⟨by rw [P.out]; rfl, hb1⟩
    · have g8 : decide (5 < s.size) = true := by simp; omega
      have g8' : decide (5 < (s.size : Int)) = true := by simp; omega
      rw [if_neg (fun e => h (lb0.1 e))] at P0
      clear lb0 h hj
      cases good with
      | false =>
        have P := Lib.hid (show rParseA s.data.toList = (0, false, 4) by rw [P0]; exact if_pos (.inl rfl))
        clear P0
        go_enter Tryd.func28, Tryd.ntmps28
        go_wp2_with (go_at_call 46; first | (rw [HA.out, HC.out]; refine (D1.out _).mono ?_; rintro e w1 ⟨rfl, hb1⟩) | (rw [HB.out]; refine (D2.out _).mono ?_; rintro e w2 ⟨rfl, hb2⟩))
        go_ret3
        exact ⟨by rw [P.out]; rfl, hb1.trans (hb2.mono hb1.size)⟩
      | true =>
        by_cases hu : u = 0
        · have P := Lib.hid (show rParseA s.data.toList = (0, false, 4) by rw [P0]; exact if_pos (.inr hu))
          have g9 : (u == 0) = true := by simpa using hu
          clear P0 hu
          go_enter Tryd.func28, Tryd.ntmps28
          go_wp2_with (go_at_call 46; first | (rw [HA.out, HC.out]; refine (D1.out _).mono ?_; rintro e w1 ⟨rfl, hb1⟩) | (rw [HB.out]; refine (D2.out _).mono ?_; rintro e w2 ⟨rfl, hb2⟩))
          go_ret3
          exact ⟨by rw [P.out]; rfl, hb1.trans (hb2.mono hb1.size)⟩
        · have g9 : (u == 0) = false := by simpa using hu
          rw [if_neg (by rintro (h | h); · cases h
                         · exact hu h)] at P0
          clear hu
          by_cases h3 : 2000 < v - 1000 + u * 1000
          · have P := Lib.hid (P0.trans (if_pos h3))
            have g10 : decide (2000 < v - 1000 + u * 1000) = true := by simpa using h3
            clear P0 h3
            go_enter Tryd.func28, Tryd.ntmps28
            go_wp2_with (go_at_call 46; first | (rw [HA.out, HC.out]; refine (D1.out _).mono ?_; rintro e w1 ⟨rfl, hb1⟩) | (rw [HB.out]; refine (D2.out _).mono ?_; rintro e w2 ⟨rfl, hb2⟩))
            go_ret3
            exact ⟨by rw [P.out]; rfl, hb1.trans (hb2.mono hb1.size)⟩
          · have P := Lib.hid (P0.trans (if_neg h3))
            have g10 : decide (2000 < v - 1000 + u * 1000) = false := by simpa using h3
            clear P0 h3
            go_enter Tryd.func28, Tryd.ntmps28
            go_wp2_with (go_at_call 46; first | (rw [HA.out, HC.out]; refine (D1.out _).mono ?_; rintro e w1 ⟨rfl, hb1⟩) | (rw [HB.out]; refine (D2.out _).mono ?_; rintro e w2 ⟨rfl, hb2⟩))
            go_ret3
            exact ⟨by rw [P.out]; rfl, hb1.trans (hb2.mono hb1.size)⟩
theorem rparse_any (s : ByteArray) (w : World) (hs : s.size < 9223372036854775808) :
    Calls Tryd.prog 28 #[.string s] w (RetV (parseA s.data.toList) w) := by
  rw [← parse_sameA]
  by_cases hk : 2 < s.size ∧ s.data.toList.drop (s.size - 2) = [75, 84]
  · exact rparse_kt s w hs hk.1 hk.2
  · by_cases hq : s.size < 5 ∨ s.data.toList.headD 0 ≠ 77 ∨ s.data.toList.getD (s.size - 4) 0 ≠ 46
    · exact rparse_no s w hs hk hq
    · refine rparse_m s w hs ⟨hk, Nat.le_of_not_lt fun h => hq (.inl h), Decidable.byContradiction fun h => hq (.inr (.inl h)), Decidable.byContradiction fun h => hq (.inr (.inr h))⟩
end Go.Proofs.YtnaokohffelklaaDoor
