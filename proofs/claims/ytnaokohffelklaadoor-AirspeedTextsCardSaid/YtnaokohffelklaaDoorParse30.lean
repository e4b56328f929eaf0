/-
  The walk of layer 30's Parse.
-/
import Derived.Test.YtnaokohffelklaaDoorCutOne
import Derived.Test.YtnaokohffelklaaDoorText30
namespace Go.Proofs.YtnaokohffelklaaDoor
set_option linter.unusedVariables false
open Go.RowKit

theorem empty_iff (t : ByteArray) : t.toList.isEmpty = true ↔ t.size = 0 := by
  rw [List.isEmpty_iff, ← List.length_eq_zero_iff]
  have : t.toList.length = t.size := by rw [Lib.toList_data, len_data]
  rw [this]
theorem cut_len (s : List UInt8) : (Lib.cut s [46]).1.length ≤ s.length ∧ (Lib.cut s [46]).2.1.length ≤ s.length := by
  unfold Lib.cut
  split
  · simp; omega
  · simp
theorem cut_any (s a b : ByteArray) (f : Bool) (w : World) (hE : Env w) (hs : s.size < 9223372036854775808) (ha : (Lib.cut s.data.toList [46]).1 = a.data.toList) (hb : (Lib.cut s.data.toList [46]).2.1 = b.data.toList) (hf : (Lib.cut s.data.toList [46]).2.2 = f) :
    Calls Tryd.prog 59 #[.string s, .string ⟨#[46]⟩] w fun e w' => e = .returned (.tuple #[.string a, .string b, .bool f]) ∧ Below w.heap.size w w' := by
  refine (cut_one s 46 w (by omega)).mono fun e w' ⟨he, n, hw⟩ => ⟨?_, by rw [hw]; exact below_drewN (Below.refl _ _) _⟩
  rw [he]
  show Ending.returned (.tuple #[.string ⟨(Lib.cut s.data.toList [46]).1.toArray⟩, .string ⟨(Lib.cut s.data.toList [46]).2.1.toArray⟩, .bool (Lib.cut s.data.toList [46]).2.2]) = _
  rw [ha, hb, hf, ba_eta, ba_eta]
theorem cutp_any (s t : ByteArray) (f : Bool) (w : World) (ht : Lib.trimPrefix s.data.toList [77] = t.data.toList) (hn : Lib.hasPrefix s.data.toList [77] = f) :
    Calls Tryd.prog 42 #[.string s, .string ⟨#[77]⟩] w fun e w' => e = .returned (.tuple #[.string t, .bool f]) ∧ w = w' :=
  (Tryd.strings_CutPrefix s ⟨#[77]⟩ w).mono fun e w' ⟨he, hw⟩ => ⟨by
    rw [he]
    show Ending.returned (.tuple #[.string ⟨(Lib.trimPrefix s.data.toList [77]).toArray⟩, .bool (Lib.hasPrefix s.data.toList [77])]) = _
    rw [ht, hn, ba_eta], hw.symm⟩
theorem cuts_any (s t : ByteArray) (f : Bool) (w : World) (hs : s.size ≤ 9223372036854775807) (ht : Lib.trimSuffix s.data.toList [75, 84] = t.data.toList) (hn : Lib.hasSuffix s.data.toList [75, 84] = f) :
    Calls Tryd.prog 44 #[.string s, .string ⟨#[75, 84]⟩] w fun e w' => e = .returned (.tuple #[.string t, .bool f]) ∧ w = w' :=
  (Tryd.strings_CutSuffix s ⟨#[75, 84]⟩ w (by omega)).mono fun e w' ⟨he, hw⟩ => ⟨by
    rw [he]
    show Ending.returned (.tuple #[.string ⟨(Lib.trimSuffix s.data.toList [75, 84]).toArray⟩, .bool (Lib.hasSuffix s.data.toList [75, 84])]) = _
    rw [ht, hn, ba_eta], hw.symm⟩
theorem pre48_any (s : ByteArray) (f : Bool) (w : World) (hn : Lib.hasPrefix s.data.toList [48] = f) :
    Calls Tryd.prog 61 #[.string s, .string ⟨#[48]⟩] w fun e w' => e = .returned (.bool f) ∧ w = w' :=
  (Tryd.strings_HasPrefix s ⟨#[48]⟩ w).mono fun e w' ⟨he, hw⟩ => ⟨by
    rw [he]
    show Ending.returned (.bool (Lib.hasPrefix s.data.toList [48])) = _
    rw [hn], hw.symm⟩
theorem digF_bd (l : List UInt8) : 0 ≤ (digF 10000 l).1 ∧ (digF 10000 l).1 ≤ 10000 := by
  unfold digF
  split
  · rename_i h
    exact valD_bd (by decide) l h
  · exact ⟨by decide, by decide⟩
set_option maxHeartbeats 1000000 in
theorem parseCAS_any (t : ByteArray) (w : World) (hs : t.size ≤ 9223372036854775807) :
    Calls Tryd.prog 45 #[.string t] w fun e w' => e = .returned (.tuple #[.int .i64 (pCas t.data.toList).1, .int .i64 (pCas t.data.toList).2]) ∧ w = w' := by
  have NU := Lib.hid fun w => number_any t w hs
  obtain ⟨v0, v1⟩ := digF_bd t.data.toList
  have P0 : pCas t.data.toList = if (digF 10000 t.data.toList).2 = false ∨ t.data.toList = [] ∨ (((t.data.toList.headD 0).toNat : Int) = 48 ∧ 1 < t.data.toList.length) then (0, 4) else if 1000 < (digF 10000 t.data.toList).1 then (0, 2) else ((digF 10000 t.data.toList).1, 0) := rfl
  generalize digF 10000 t.data.toList = d at *
  obtain ⟨v, ok⟩ := d
  have hz := empty_iff t
  rw [len_data] at P0
  have hn : t.data.toList = [] ↔ t.size = 0 := by rw [← List.length_eq_zero_iff, len_data]
  cases ok with
  | false =>
    have P := Lib.hid (show pCas t.data.toList = (0, 4) by rw [P0, if_pos (.inl rfl)])
    clear P0 hz hn
    go_enter Tryd.func45, Tryd.ntmps45
    go_wp2_with (go_at_call 60; refine (NU.out _).mono ?_; rintro e w1 ⟨rfl, rfl⟩)
    go_ret2
    exact ⟨by rw [P.out]; rfl, rfl⟩
  | true =>
    by_cases h0 : t.size = 0
    · have P := Lib.hid (show pCas t.data.toList = (0, 4) by rw [P0, if_pos (.inr (.inl (hn.2 h0)))])
      have g := hz.2 h0
      clear P0 hz hn h0
      go_enter Tryd.func45, Tryd.ntmps45
      go_wp2_with (go_at_call 60; refine (NU.out _).mono ?_; rintro e w1 ⟨rfl, rfl⟩)
      go_ret2
      exact ⟨by rw [P.out]; rfl, rfl⟩
    · have g : t.toList.isEmpty = false := by
        cases e : t.toList.isEmpty
        · rfl
        · exact absurd (hz.1 e) h0
      have hp : 0 < t.size := by omega
      have hh := head_of t hp
      by_cases h1 : (t[0].toNat : Int) = 48
      · have g1 : ((t[0].toNat : Int) == 48) = true := by simpa using h1
        by_cases h2 : 1 < t.size
        · have P := Lib.hid (show pCas t.data.toList = (0, 4) by rw [P0, if_pos (.inr (.inr ⟨by rw [hh]; exact h1, h2⟩))])
          have g2 : decide (1 < t.size) = true := by simpa using h2
          have g3 : decide (1 < (t.size : Int)) = true := by simp; omega
          clear P0 hz hn hh h1
          go_enter Tryd.func45, Tryd.ntmps45
          go_wp2_with (go_at_call 60; refine (NU.out _).mono ?_; rintro e w1 ⟨rfl, rfl⟩)
          go_ret2
          exact ⟨by rw [P.out]; rfl, rfl⟩
        · have P1 : pCas t.data.toList = if 1000 < v then (0, 2) else (v, 0) := by
            rw [P0, if_neg]
            rintro (a | a | a)
            · cases a
            · exact h0 (hn.1 a)
            · exact h2 a.2
          have g2 : decide (1 < t.size) = false := by simpa using h2
          have g3 : decide (1 < (t.size : Int)) = false := by simp; omega
          clear P0 hz hn hh h1
          by_cases h3 : 1000 < v
          · have P := Lib.hid (P1.trans (if_pos h3))
            have g4 : decide (1000 < v) = true := by simpa using h3
            clear P1 h3
            go_enter Tryd.func45, Tryd.ntmps45
            go_wp2_with (go_at_call 60; refine (NU.out _).mono ?_; rintro e w1 ⟨rfl, rfl⟩)
            go_ret2
            exact ⟨by rw [P.out]; rfl, rfl⟩
          · have P := Lib.hid (P1.trans (if_neg h3))
            have g4 : decide (1000 < v) = false := by simpa using h3
            clear P1 h3
            go_enter Tryd.func45, Tryd.ntmps45
            go_wp2_with (go_at_call 60; refine (NU.out _).mono ?_; rintro e w1 ⟨rfl, rfl⟩)
            go_ret2
            exact ⟨by rw [P.out]; rfl, rfl⟩
      · have g1 : ((t[0].toNat : Int) == 48) = false := by simpa using h1
        have P1 : pCas t.data.toList = if 1000 < v then (0, 2) else (v, 0) := by
          rw [P0, if_neg]
          rintro (a | a | a)
          · cases a
          · exact h0 (hn.1 a)
          · rw [hh] at a; exact h1 a.1
        clear P0 hz hn hh h1
        by_cases h3 : 1000 < v
        · have P := Lib.hid (P1.trans (if_pos h3))
          have g4 : decide (1000 < v) = true := by simpa using h3
          clear P1 h3
          go_enter Tryd.func45, Tryd.ntmps45
          go_wp2_with (go_at_call 60; refine (NU.out _).mono ?_; rintro e w1 ⟨rfl, rfl⟩)
          go_ret2
          exact ⟨by rw [P.out]; rfl, rfl⟩
        · have P := Lib.hid (P1.trans (if_neg h3))
          have g4 : decide (1000 < v) = false := by simpa using h3
          clear P1 h3
          go_enter Tryd.func45, Tryd.ntmps45
          go_wp2_with (go_at_call 60; refine (NU.out _).mono ?_; rintro e w1 ⟨rfl, rfl⟩)
          go_ret2
          exact ⟨by rw [P.out]; rfl, rfl⟩
set_option maxHeartbeats 2000000 in
theorem parseMach_any (s : ByteArray) (w : World) (hE : Env w) (hs : s.size < 9223372036854775808) :
    Calls Tryd.prog 43 #[.string s] w fun e w' => e = .returned (.tuple #[.int .i64 (pMach s.data.toList).1, .int .i64 (pMach s.data.toList).2]) ∧ Below w.heap.size w w' := by
  obtain ⟨a, ha⟩ : ∃ a : ByteArray, (Lib.cut s.data.toList [46]).1 = a.data.toList := ⟨⟨(Lib.cut s.data.toList [46]).1.toArray⟩, rfl⟩
  obtain ⟨b, hb⟩ : ∃ b : ByteArray, (Lib.cut s.data.toList [46]).2.1 = b.data.toList := ⟨⟨(Lib.cut s.data.toList [46]).2.1.toArray⟩, rfl⟩
  have la : a.size ≤ 9223372036854775807 := by have := (cut_len s.data.toList).1; rw [ha, len_data, len_data] at this; omega
  have lb : b.size ≤ 9223372036854775807 := by have := (cut_len s.data.toList).2; rw [hb, len_data, len_data] at this; omega
  generalize hf : (Lib.cut s.data.toList [46]).2.2 = f
  have CUT := Lib.hid (fun w hE => cut_any s a b f w hE hs ha hb hf)
  have CA := fun w => number_any a w la
  have CB := fun w => number_any b w lb
  obtain ⟨a0, a1⟩ := digF_bd a.data.toList
  obtain ⟨b0, b1⟩ := digF_bd b.data.toList
  obtain ⟨p, hp⟩ : ∃ p, Lib.hasPrefix a.data.toList [48] = p := ⟨_, rfl⟩
  have PR := Lib.hid fun w => pre48_any a p w hp
  have P0 : pMach s.data.toList = if f = false ∨ (digF 10000 a.data.toList).2 = false ∨ (digF 10000 b.data.toList).2 = false ∨ b.size ≠ 3 ∨ p = true then (0, 4)
      else if 2000 < 1000 * (digF 10000 a.data.toList).1 + (digF 10000 b.data.toList).1 then (0, 2) else (1000 * (digF 10000 a.data.toList).1 + (digF 10000 b.data.toList).1, 0) := by
    unfold pMach pMachF
    rw [ha, hb, hf, hp, len_data]
  have HE := Lib.hid hE
  clear hE ha hb hf hp
  generalize digF 10000 a.data.toList = ca at *
  generalize digF 10000 b.data.toList = cb at *
  obtain ⟨xa, ya⟩ := ca
  obtain ⟨xb, yb⟩ := cb
  have HCA := Lib.hid CA
  have HCB := Lib.hid CB
  clear CA CB
  by_cases hbad : f = false ∨ ya = false ∨ yb = false ∨ b.size ≠ 3 ∨ p = true
  · have P := Lib.hid (P0.trans (if_pos hbad))
    clear P0
    cases f with
    | false =>
      clear hbad
      go_enter Tryd.func43, Tryd.ntmps43
      go_wp2_with (first
        | (go_at_call 59; refine (CUT.out _ HE.out).mono ?_; rintro e w1 ⟨rfl, hb1⟩)
        | (go_at_call 60; first | ((with_reducible refine (HCA.out _).mono ?_); rintro e w1 ⟨rfl, rfl⟩) | ((with_reducible refine (HCB.out _).mono ?_); rintro e w1 ⟨rfl, rfl⟩)))
      go_ret2
      exact ⟨by rw [P.out]; rfl, hb1⟩
    | true =>
      cases ya with
      | false =>
        clear hbad
        go_enter Tryd.func43, Tryd.ntmps43
        go_wp2_with (first
          | (go_at_call 59; refine (CUT.out _ HE.out).mono ?_; rintro e w1 ⟨rfl, hb1⟩)
          | (go_at_call 60; first | ((with_reducible refine (HCA.out _).mono ?_); rintro e w1 ⟨rfl, rfl⟩) | ((with_reducible refine (HCB.out _).mono ?_); rintro e w1 ⟨rfl, rfl⟩)))
        go_ret2
        exact ⟨by rw [P.out]; rfl, hb1⟩
      | true =>
        cases yb with
        | false =>
          clear hbad
          go_enter Tryd.func43, Tryd.ntmps43
          go_wp2_with (first
            | (go_at_call 59; refine (CUT.out _ HE.out).mono ?_; rintro e w1 ⟨rfl, hb1⟩)
            | (go_at_call 60; first | ((with_reducible refine (HCA.out _).mono ?_); rintro e w1 ⟨rfl, rfl⟩) | ((with_reducible refine (HCB.out _).mono ?_); rintro e w1 ⟨rfl, rfl⟩)))
          go_ret2
          exact ⟨by rw [P.out]; rfl, hb1⟩
        | true =>
          by_cases h3 : b.size = 3
          · have g3 : ((b.size : Int) != 3) = false := by simp; omega
            have hp : p = true := by
              rcases hbad with h | h | h | h | h
              · cases h
              · cases h
              · cases h
              · exact absurd h3 h
              · exact h
            subst hp
            clear hbad h3
            go_enter Tryd.func43, Tryd.ntmps43
            go_wp2_with (first
              | (go_at_call 59; refine (CUT.out _ HE.out).mono ?_; rintro e w1 ⟨rfl, hb1⟩)
              | (go_at_call 61; refine (PR.out _).mono ?_; rintro e w1 ⟨rfl, rfl⟩)
              | (go_at_call 60; first | ((with_reducible refine (HCA.out _).mono ?_); rintro e w1 ⟨rfl, rfl⟩) | ((with_reducible refine (HCB.out _).mono ?_); rintro e w1 ⟨rfl, rfl⟩)))
            go_ret2
            exact ⟨by rw [P.out]; rfl, hb1⟩
          · have g3 : ((b.size : Int) != 3) = true := by simp; omega
            clear hbad h3
            go_enter Tryd.func43, Tryd.ntmps43
            go_wp2_with (first
              | (go_at_call 59; refine (CUT.out _ HE.out).mono ?_; rintro e w1 ⟨rfl, hb1⟩)
              | (go_at_call 60; first | ((with_reducible refine (HCA.out _).mono ?_); rintro e w1 ⟨rfl, rfl⟩) | ((with_reducible refine (HCB.out _).mono ?_); rintro e w1 ⟨rfl, rfl⟩)))
            go_ret2
            exact ⟨by rw [P.out]; rfl, hb1⟩
  · have P1 := P0.trans (if_neg hbad)
    simp only [not_or, Bool.not_eq_false, Bool.not_eq_true] at hbad
    obtain ⟨rfl, rfl, rfl, h3, rfl⟩ := hbad
    have h3 : b.size = 3 := Decidable.byContradiction h3
    have g3 : ((b.size : Int) != 3) = false := by simp; omega
    clear P0 h3
    by_cases h4 : 2000 < 1000 * xa + xb
    · have P := Lib.hid (P1.trans (if_pos h4))
      have g4 : decide (2000 < 1000 * xa + xb) = true := by simpa using h4
      clear P1 h4
      go_enter Tryd.func43, Tryd.ntmps43
      go_wp2_with (first
        | (go_at_call 59; refine (CUT.out _ HE.out).mono ?_; rintro e w1 ⟨rfl, hb1⟩)
        | (go_at_call 61; refine (PR.out _).mono ?_; rintro e w1 ⟨rfl, rfl⟩)
        | (go_at_call 60; first | ((with_reducible refine (HCA.out _).mono ?_); rintro e w1 ⟨rfl, rfl⟩) | ((with_reducible refine (HCB.out _).mono ?_); rintro e w1 ⟨rfl, rfl⟩)))
      go_ret2
      exact ⟨by rw [P.out]; rfl, hb1⟩
    · have P := Lib.hid (P1.trans (if_neg h4))
      have g4 : decide (2000 < 1000 * xa + xb) = false := by simpa using h4
      clear P1 h4
      go_enter Tryd.func43, Tryd.ntmps43
      go_wp2_with (first
        | (go_at_call 59; refine (CUT.out _ HE.out).mono ?_; rintro e w1 ⟨rfl, hb1⟩)
        | (go_at_call 61; refine (PR.out _).mono ?_; rintro e w1 ⟨rfl, rfl⟩)
        | (go_at_call 60; first | ((with_reducible refine (HCA.out _).mono ?_); rintro e w1 ⟨rfl, rfl⟩) | ((with_reducible refine (HCB.out _).mono ?_); rintro e w1 ⟨rfl, rfl⟩)))
      go_ret2
      exact ⟨by rw [P.out]; rfl, hb1⟩
def RetV (r : Int × Bool × Int) (w : World) (e : Ending) (w' : World) : Prop := e = .returned (.tuple #[.int .i64 r.1, .bool r.2.1, .int .i64 r.2.2]) ∧ Below w.heap.size w w'
theorem trim_le (s : List UInt8) : (Lib.trimPrefix s [77]).length ≤ s.length ∧ (Lib.trimSuffix s [75, 84]).length ≤ s.length := by
  unfold Lib.trimPrefix Lib.trimSuffix
  constructor
  · split
    · rw [List.length_drop]; omega
    · exact Nat.le_refl _
  · split
    · simp
    · exact Nat.le_refl _
set_option maxHeartbeats 1000000 in
theorem parse_any (s : ByteArray) (w : World) (hE : Env w) (hs : s.size < 9223372036854775808) :
    Calls Tryd.prog 25 #[.string s] w (RetV (parseA s.data.toList) w) := by
  obtain ⟨a, ha⟩ : ∃ a : ByteArray, Lib.trimPrefix s.data.toList [77] = a.data.toList := ⟨⟨(Lib.trimPrefix s.data.toList [77]).toArray⟩, rfl⟩
  obtain ⟨b, hb⟩ : ∃ b : ByteArray, Lib.trimSuffix s.data.toList [75, 84] = b.data.toList := ⟨⟨(Lib.trimSuffix s.data.toList [75, 84]).toArray⟩, rfl⟩
  have la : a.size < 9223372036854775808 := by have := (trim_le s.data.toList).1; rw [ha, len_data, len_data] at this; omega
  have lb : b.size ≤ 9223372036854775807 := by have := (trim_le s.data.toList).2; rw [hb, len_data, len_data] at this; omega
  obtain ⟨f, hf⟩ : ∃ f, Lib.hasPrefix s.data.toList [77] = f := ⟨_, rfl⟩
  obtain ⟨g, hg⟩ : ∃ g, Lib.hasSuffix s.data.toList [75, 84] = g := ⟨_, rfl⟩
  have P0 : parseA s.data.toList = if f = true then ((pMach a.data.toList).1, decide ((pMach a.data.toList).2 = 0), (pMach a.data.toList).2) else if g = true then ((pCas b.data.toList).1, false, (pCas b.data.toList).2) else (0, false, 4) := by
    unfold parseA
    rw [ha, hb, hf, hg]
  have CP := Lib.hid fun w => cutp_any s a f w ha hf
  have CS := Lib.hid fun w => cuts_any s b g w (by omega) hb hg
  have PM := fun w hE => parseMach_any a w hE la
  have PC := fun w => parseCAS_any b w lb
  have HE := Lib.hid hE
  clear hE ha hb hf hg
  generalize pMach a.data.toList = pm at *
  generalize pCas b.data.toList = pc at *
  obtain ⟨v, e⟩ := pm
  obtain ⟨u, d⟩ := pc
  have HPM := Lib.hid PM
  have HPC := Lib.hid PC
  clear PM PC
  cases f with
  | true =>
    have P1 : parseA s.data.toList = (v, decide (e = 0), e) := by rw [P0]; rfl
    clear P0
    by_cases h : e = 0
    · have P := Lib.hid (show parseA s.data.toList = (v, true, e) by rw [P1, decide_eq_true h])
      have g1 : (e == 0) = true := by simpa using h
      clear P1 h
      go_enter Tryd.func25, Tryd.ntmps25
      go_wp2_with (first
        | (go_at_call 42; refine (CP.out _).mono ?_; rintro e w1 ⟨rfl, rfl⟩)
        | (go_at_call 43; refine (HPM.out _ HE.out).mono ?_; rintro e w1 ⟨rfl, hb1⟩))
      go_ret3
      exact ⟨by rw [P.out]; rfl, hb1⟩
    · have P := Lib.hid (show parseA s.data.toList = (v, false, e) by rw [P1, decide_eq_false h])
      have g1 : (e == 0) = false := by simpa using h
      clear P1 h
      go_enter Tryd.func25, Tryd.ntmps25
      go_wp2_with (first
        | (go_at_call 42; refine (CP.out _).mono ?_; rintro e w1 ⟨rfl, rfl⟩)
        | (go_at_call 43; refine (HPM.out _ HE.out).mono ?_; rintro e w1 ⟨rfl, hb1⟩))
      go_ret3
      exact ⟨by rw [P.out]; rfl, hb1⟩
  | false =>
    cases g with
    | true =>
      have P := Lib.hid (show parseA s.data.toList = (u, false, d) by rw [P0]; rfl)
      clear P0
      go_enter Tryd.func25, Tryd.ntmps25
      go_wp2_with (first
        | (go_at_call 42; refine (CP.out _).mono ?_; rintro e w1 ⟨rfl, rfl⟩)
        | (go_at_call 44; refine (CS.out _).mono ?_; rintro e w1 ⟨rfl, rfl⟩)
        | (go_at_call 45; refine (HPC.out _).mono ?_; rintro e w1 ⟨rfl, rfl⟩))
      go_ret3
      exact ⟨by rw [P.out]; rfl, Below.refl _ _⟩
    | false =>
      have P := Lib.hid (show parseA s.data.toList = (0, false, 4) by rw [P0]; rfl)
      clear P0
      go_enter Tryd.func25, Tryd.ntmps25
      go_wp2_with (first
        | (go_at_call 42; refine (CP.out _).mono ?_; rintro e w1 ⟨rfl, rfl⟩)
        | (go_at_call 44; refine (CS.out _).mono ?_; rintro e w1 ⟨rfl, rfl⟩))
      go_ret3
      exact ⟨by rw [P.out]; rfl, Below.refl _ _⟩
end Go.Proofs.YtnaokohffelklaaDoor
