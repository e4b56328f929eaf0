/-
  The walks of the reference's texts: Text, Digits, number, Parse.
-/
import Derived.Test.YtdfpbojlimeccaaDoorDecimalRef
import Derived.Deep.Cut
namespace Go.Proofs.YtdfpbojlimeccaaDoor
set_option linter.unusedVariables false
open Go.RowKit Tr Sq

theorem dec_quiet (n : Int) (a : ByteArray) (w : World) (h0 : -9223372036854775807 ≤ n) (h1 : n ≤ 9223372036854775807) (ha : (⟨(Lib.itoa n).toArray⟩ : ByteArray) = a) (d : Nat) (os : Array Obj) :
    Calls Tryd.prog 57 #[.int .i64 n] (Go.Sort.grow (redrawn w d) os) fun e w'' => e = .returned (.string a) ∧ ∃ p : Regrown, w'' = Go.Sort.grow (redrawn w p.d) p.os :=
  Calls.regrown_of (by rw [← ha]; exact decimal_any n _ h0 h1)
set_option maxHeartbeats 2000000 in
theorem text_ref (x n : Int) (w : World) :
    Calls Tryd.prog 24 #[.agg #[.int .i64 x, .int .i64 n]] w (RetS (textF x n) w) := by
  cases hv : vldW x n with
  | false =>
    have e1 := Lib.hid (show textF x n = ([], 1) by unfold textF; rw [if_neg (by simp [hv])])
    have HV := Lib.hid hv
    clear hv
    go_enter Tryd.func24, Tryd.ntmps24
    go_wp2_with (go_at_call 32; refine (valid_ref _ _ _).mono ?_; rw [HV.out]; rintro e w1 ⟨rfl, hb⟩)
    go_ret2
    exact ⟨by rw [e1.out]; rfl, below_box hb⟩
  | true =>
    obtain ⟨b0, b1, b2, b3⟩ := vldW_iff.1 hv
    obtain ⟨a, ha⟩ : ∃ a : ByteArray, (⟨(Lib.itoa x).toArray⟩ : ByteArray) = a := ⟨_, rfl⟩
    obtain ⟨b, hb'⟩ : ∃ b : ByteArray, (⟨(Lib.itoa n).toArray⟩ : ByteArray) = b := ⟨_, rfl⟩
    have la := itoa_size (by omega) (by omega) ha
    have lb := itoa_size (by omega) (by omega) hb'
    have e1 := Lib.hid (show textF x n = (a.data.toList ++ [44] ++ b.data.toList, 0) by unfold textF; rw [if_pos hv, ← ha, ← hb'])
    have HV := Lib.hid hv
    have HA := Lib.hid ha
    have HB := Lib.hid hb'
    clear hv ha hb'
    have n1 : ¬ 9223372036854775807 < a.size + 1 := by omega
    have n2 : ¬ 9223372036854775807 < a.size + 1 + b.size := by omega
    go_enter Tryd.func24, Tryd.ntmps24
    go_wp2_with (go_at_call 32; refine (valid_ref _ _ _).mono ?_; rw [HV.out]; rintro e w1 ⟨rfl, hb⟩)
    have hw := below_box hb
    obtain ⟨hc, hf⟩ := bcell hb
    have g0 := fun d os => cell_regrown (w := w1) (a := ⟨w.heap.size, 0, none⟩) (v := .int .i64 x) ((hc _ _ (by simp)).trans (by rw [World.cell?_alloc_at _ _ _ _ (by simp)]; rfl)) d os
    have g1 := fun d os => cell_regrown (w := w1) (a := ⟨w.heap.size, 1, none⟩) (v := .int .i64 n) ((hc _ _ (by simp)).trans (by rw [World.cell?_alloc_at _ _ _ _ (by simp)]; rfl)) d os
    have c1 := Lib.hid (dec_quiet x a w1 (by omega) (by omega) HA.out)
    have c2 := Lib.hid (dec_quiet n b w1 (by omega) (by omega) HB.out)
    have HW := Lib.hid hw
    clear hc hf hb hw
    refine wp_region_quiet_below (by kernel_rfl) (by kernel_rfl) ?_
    repeat (quiet_step (first | with_reducible exact c1.out _ _ | with_reducible exact c2.out _ _))
    refine wpQuiet_nil ?_
    intro _ hw'
    obtain ⟨⟨dq, osq⟩, hw''⟩ := hw'
    subst hw''
    go_wp2
    go_ret2
    refine ⟨?_, HW.out.trans ((below_regrown w1 dq osq).mono HW.out.size)⟩
    rw [e1.out]
    show Ending.returned (.tuple #[.string (a ++ ⟨#[44]⟩ ++ b), .int .i64 0]) = _
    rw [cat_eq]
def DigR (t : ByteArray) (s4 s5 : Value) : Prop := ∃ k : Nat, k ≤ t.size ∧ s5 = .int .i64 k ∧ s4 = .int .i64 (valD 1000000000 (t.data.toList.take k)) ∧ Hid ((t.data.toList.take k).all isDig = true)
theorem rDig_bad (t : ByteArray) (k : Nat) (hk : k < t.size) (h : isDig t[k] = false) : rDig t.data.toList = (0, false) := by
  unfold rDig; rw [if_neg (by rw [notall t k hk h]; decide)]
theorem rDig_good (t : ByteArray) (ha : t.data.toList.all isDig = true) (b : Bool) (hb : b = (decide (t.size = 1) || (decide (1 < t.size) && !decide (((t.data.toList.headD 0).toNat : Int) = 48)))) : rDig t.data.toList = (valD 1000000000 t.data.toList, b) := by
  unfold rDig; rw [if_pos ha, len_data, hb]
set_option maxHeartbeats 2000000 in
set_option maxRecDepth 100000 in
theorem digits_ref (t : ByteArray) (w : World) (hs : t.size ≤ 9223372036854775807) :
    Calls Tryd.prog 79 #[.string t] w fun e w' => e = .returned (.tuple #[.int .i64 (rDig t.data.toList).1, .bool (rDig t.data.toList).2]) ∧ Below w.heap.size w w' := by
  have BAD := Lib.hid (rDig_bad t)
  have GOOD := Lib.hid (rDig_good t)
  go_enter Tryd.func79, Tryd.ntmps79
  go_wp2
  go_loop [4, 5] (DigR t) (fun _ i => t.size - (intOf i).toNat)
  case atStart => exact ⟨0, Nat.zero_le _, rfl, rfl, (rfl : (t.data.toList.take 0).all isDig = true)⟩
  case round =>
    obtain ⟨k, hk, rfl, rfl, hd⟩ := hrel
    obtain ⟨v0, v1⟩ := valD_bd (cap := 1000000000) (by decide) _ hd.out
    by_cases hlt : k < t.size
    · have HS := Lib.hid (take_snoc t k hlt)
      go_wp2
      · go_ret2
        exact ⟨ret_ib _ (BAD.out k hlt (by unfold isDig; simp; omega)) rfl rfl, Below.refl _ _⟩
      · go_round
        case rel =>
          refine ⟨k + 1, by omega, by go_num, ?_, ?_⟩
          · rw [HS.out, valD_snoc]; first | rfl | (unfold valStep; congr 2; omega)
          · show (t.data.toList.take (k + 1)).all isDig = true
            rw [HS.out, List.all_append, hd.out]
            simp [isDig]; omega
        case measure => simp [intOf]; omega
      · go_ret2
        exact ⟨ret_ib _ (BAD.out k hlt (by unfold isDig; simp; omega)) rfl rfl, Below.refl _ _⟩
    · have e : t.data.toList.take k = t.data.toList := List.take_of_length_le (by rw [len_data]; omega)
      have E := Lib.hid e
      have G := Lib.hid (GOOD.out (by rw [← e]; exact hd.out))
      clear e
      by_cases h1 : t.size = 1
      · have HB := Lib.hid (G.out true (by simp [h1]))
        have f1 : ((t.size : Int) == 1) = true := by rw [beq_iff_eq]; omega
        clear h1
        go_wp2_with fail
        go_quiet (fail)
        go_wp2
        go_ret2
        exact ⟨ret_ib _ HB.out (by rw [E.out]) rfl, below_drewN (Below.refl _ _) _⟩
      · have f1 : ((t.size : Int) == 1) = false := by rw [beq_eq_false_iff_ne]; omega
        by_cases h2 : 1 < t.size
        · have hp : 0 < t.size := by omega
          have f2 : decide (1 < (t.size : Int)) = true := by rw [decide_eq_true_iff]; omega
          have f2' : decide (1 < t.size) = true := by simpa using h2
          have hh := head_of t (by omega)
          by_cases h3 : (t[0].toNat : Int) = 48
          · have HB := Lib.hid (G.out false (by rw [hh]; simp [h1, h3]))
            have f3 : ((t[0].toNat : Int) != 48) = false := by simpa using h3
            clear h3 hh
            go_wp2_with fail
            go_quiet (fail)
            go_wp2
            go_ret2
            exact ⟨ret_ib _ HB.out (by rw [E.out]) rfl, below_drewN (Below.refl _ _) _⟩
          · have HB := Lib.hid (G.out true (by rw [hh]; simp [h2, h3]))
            have f3 : ((t[0].toNat : Int) != 48) = true := by simpa using h3
            clear h3 hh
            go_wp2_with fail
            go_quiet (fail)
            go_wp2
            go_ret2
            exact ⟨ret_ib _ HB.out (by rw [E.out]) rfl, below_drewN (Below.refl _ _) _⟩
        · have f2 : decide (1 < (t.size : Int)) = false := by rw [decide_eq_false_iff_not]; omega
          have f2' : decide (1 < t.size) = false := by simpa using h2
          have HB := Lib.hid (G.out false (by simp [h1, h2]))
          go_wp2_with fail
          go_quiet (fail)
          go_wp2
          go_ret2
          exact ⟨ret_ib _ HB.out (by rw [E.out]) rfl, below_drewN (Below.refl _ _) _⟩
theorem rDig_bd (l : List UInt8) : 0 ≤ (rDig l).1 ∧ (rDig l).1 ≤ 1000000000 := by
  unfold rDig
  split
  · rename_i h
    exact valD_bd (by decide) l h
  · exact ⟨by decide, by decide⟩
/-- number -/
theorem drop1 (s : ByteArray) : (s.extract 1 s.size).data.toList = s.data.toList.drop 1 := by
  rw [ByteArray.data_extract, Array.toList_extract]
  simp [List.extract, List.take_of_length_le]
set_option maxHeartbeats 2000000 in
set_option maxRecDepth 100000 in
theorem number_ref (s : ByteArray) (w : World) (hs : s.size ≤ 9223372036854775807) :
    Calls Tryd.prog 60 #[.string s] w fun e w' => e = .returned (.tuple #[.int .i64 (rNum s.data.toList).1, .bool (rNum s.data.toList).2]) ∧ Below w.heap.size w w' := by
  by_cases h0 : 0 < s.size
  · have f1 : decide (0 < s.size) = true := by simpa using h0
    have f1' : decide (0 < (s.size : Int)) = true := by rw [decide_eq_true_iff]; omega
    have hh := head_of s h0
    by_cases h1 : (s[0].toNat : Int) = 45
    · have f2 : ((s[0].toNat : Int) == 45) = true := by simpa using h1
      have hE0 : rNum s.data.toList = (-(rDig (s.extract 1 s.size).data.toList).1, (rDig (s.extract 1 s.size).data.toList).2 && !decide ((rDig (s.extract 1 s.size).data.toList).1 = 0)) := by
        unfold rNum; rw [if_pos ⟨by rw [len_data]; exact h0, by rw [hh]; exact h1⟩, drop1]
      have hE := Lib.hid hE0
      have hl : (s.extract 1 s.size).size ≤ 9223372036854775807 := by rw [ByteArray.size_extract]; omega
      have D1 := Lib.hid (fun w => digits_ref (s.extract 1 s.size) w hl)
      have hb0 := rDig_bd (s.extract 1 s.size).data.toList
      clear hh h1 hE0
      generalize hp : rDig (s.extract 1 s.size).data.toList = p at *
      obtain ⟨n, ok⟩ := p
      obtain ⟨b0, b1⟩ := hb0
      clear hp
      simp only at b0 b1
      cases ok with
      | false =>
        go_enter Tryd.func60, Tryd.ntmps60
        go_wp2_with fail
        refine (D1.out _).mono ?_
        rintro e w1 ⟨rfl, hb⟩
        go_wp2
        go_ret2
        exact ⟨by rw [hE.out]; rfl, hb⟩
      | true =>
        by_cases hn : n = 0
        · subst hn
          go_enter Tryd.func60, Tryd.ntmps60
          go_wp2_with fail
          refine (D1.out _).mono ?_
          rintro e w1 ⟨rfl, hb⟩
          go_wp2
          go_ret2
          exact ⟨by rw [hE.out]; rfl, hb⟩
        · have f3 : (n != 0) = true := by simpa using hn
          have f4 := Lib.hid (show (true && !decide (n = 0)) = true by simpa using hn)
          clear hn
          go_enter Tryd.func60, Tryd.ntmps60
          go_wp2_with fail
          refine (D1.out _).mono ?_
          rintro e w1 ⟨rfl, hb⟩
          go_wp2
          go_ret2
          exact ⟨by rw [hE.out, f4.out]; rfl, hb⟩
    · have f2 : ((s[0].toNat : Int) == 45) = false := by simpa using h1
      have hE := Lib.hid (show rNum s.data.toList = rDig s.data.toList by unfold rNum; rw [if_neg (by rintro ⟨_, g⟩; rw [hh] at g; exact h1 g)])
      clear hh h1
      go_enter Tryd.func60, Tryd.ntmps60
      go_wp2_with fail
      refine (digits_ref s _ hs).mono ?_
      rintro e w1 ⟨rfl, hb⟩
      go_wp2
      go_ret2
      exact ⟨by rw [hE.out]; rfl, hb⟩
  · have f1 : decide (0 < s.size) = false := by simpa using h0
    have f1' : decide (0 < (s.size : Int)) = false := by rw [decide_eq_false_iff_not]; omega
    have hE := Lib.hid (show rNum s.data.toList = rDig s.data.toList by unfold rNum; rw [if_neg (by rintro ⟨g, _⟩; rw [len_data] at g; exact h0 g)])
    go_enter Tryd.func60, Tryd.ntmps60
    go_wp2_with fail
    refine (digits_ref s _ hs).mono ?_
    rintro e w1 ⟨rfl, hb⟩
    go_wp2
    go_ret2
    exact ⟨by rw [hE.out]; rfl, hb⟩
theorem rNum_bd (l : List UInt8) : -1000000000 ≤ (rNum l).1 ∧ (rNum l).1 ≤ 1000000000 := by
  unfold rNum
  split
  · have := rDig_bd (l.drop 1); simp only; omega
  · have := rDig_bd l; omega
theorem split_at (s : ByteArray) (k : Nat) (hk : k < s.size) (hc : (s[k].toNat : Int) = 44) : s.data.toList = s.data.toList.take k ++ [44] ++ s.data.toList.drop (k + 1) := by
  have e : s[k] = 44 := by
    apply UInt8.toNat_inj.1
    show s[k].toNat = 44
    omega
  have e1 : s.data.toList = s.data.toList.take (k + 1) ++ s.data.toList.drop (k + 1) := (List.take_append_drop _ _).symm
  conv => lhs; rw [e1, take_snoc s k hk, e]
theorem cut_none (l : List UInt8) (h : 44 ∉ l) : Lib.cut l [44] = (l, [], false) := by
  by_cases hf : (Lib.cut l [44]).2.2 = true
  · have := cut_back hf
    exfalso; apply h; rw [this]; simp
  · unfold Lib.cut at *
    by_cases hi : 0 ≤ Lib.index l [44]
    · rw [if_pos hi] at hf; exact absurd rfl hf
    · rw [if_neg hi]
/-- the reference's Parse, at a comma -/
theorem rParse_at (s a b : ByteArray) (k : Nat) (hk : k < s.size) (hn : 44 ∉ s.data.toList.take k) (hc : (s[k].toNat : Int) = 44) (ha : a.data.toList = s.data.toList.take k) (hb : b.data.toList = s.data.toList.drop (k + 1)) :
    rParse s.data.toList = (if (rNum a.data.toList).2 = true ∧ (rNum b.data.toList).2 = true then (if vldW (rNum a.data.toList).1 (rNum b.data.toList).1 = true then ((rNum a.data.toList).1, (rNum b.data.toList).1, 0) else (0, 0, 2)) else (0, 0, 4)) := by
  unfold rParse
  rw [split_at s k hk hc, cut_at _ _ hn, ha, hb]
  simp
theorem rParse_none (s : ByteArray) (h : 44 ∉ s.data.toList) : rParse s.data.toList = (0, 0, 4) := by
  unfold rParse
  rw [cut_none _ h]
  simp
theorem ext_take (s : ByteArray) (k : Nat) : (s.extract 0 k).data.toList = s.data.toList.take k := by
  rw [ByteArray.data_extract, Array.toList_extract]
  simp [List.extract]
theorem ext_drop (s : ByteArray) (k : Nat) : (s.extract k s.size).data.toList = s.data.toList.drop k := by
  rw [ByteArray.data_extract, Array.toList_extract]
  simp [List.extract]
  rw [List.take_of_length_le (by simp)]
def ComR (s : ByteArray) (i : Value) : Prop := ∃ k : Nat, k ≤ s.size ∧ i = .int .i64 k ∧ Hid (44 ∉ s.data.toList.take k)
set_option maxHeartbeats 4000000 in
set_option maxRecDepth 100000 in
theorem parse_ref (s : ByteArray) (w : World) (hs : s.size < 9223372036854775808) :
    Calls Tryd.prog 26 #[.string s] w (RetW (rParse s.data.toList) w) := by
  have AT := Lib.hid (rParse_at s)
  have NONE := Lib.hid (rParse_none s)
  go_enter Tryd.func26, Tryd.ntmps26
  go_wp2
  go_loop [4] (ComR s) (fun i => s.size - (intOf i).toNat)
  case atStart => exact ⟨0, Nat.zero_le _, rfl, (by simp : 44 ∉ s.data.toList.take 0)⟩
  case round =>
    obtain ⟨k, hk, rfl, hn⟩ := hrel
    by_cases hlt : k < s.size
    · by_cases hc : (s[k].toNat : Int) = 44
      · have f1 : ((s[k].toNat : Int) == 44) = true := by simpa using hc
        have P0 := AT.out (s.extract 0 k) (s.extract (k + 1) s.size) k hlt hn.out hc (ext_take s k) (ext_drop s (k + 1))
        have PF := Lib.hid P0
        have la : (s.extract 0 k).size ≤ 9223372036854775807 := by rw [ByteArray.size_extract]; omega
        have lb : (s.extract (k + 1) s.size).size ≤ 9223372036854775807 := by rw [ByteArray.size_extract]; omega
        have CA := Lib.hid (fun w => number_ref (s.extract 0 k) w la)
        have CB := Lib.hid (fun w => number_ref (s.extract (k + 1) s.size) w lb)
        have ba := rNum_bd (s.extract 0 k).data.toList
        have bb := rNum_bd (s.extract (k + 1) s.size).data.toList
        clear hc P0 la lb AT NONE
        generalize rNum (s.extract 0 k).data.toList = ca at *
        generalize rNum (s.extract (k + 1) s.size).data.toList = cb at *
        obtain ⟨xa, ya⟩ := ca
        obtain ⟨xb, yb⟩ := cb
        cases ya with
        | false =>
          cases yb
          all_goals
            go_wp2_with fail
            refine (CA.out _).mono ?_
            rintro e w1 ⟨rfl, hb1⟩
            have q0 : w1.cell? ⟨w.heap.size, 0, none⟩ = some (.int .i64 0) := (hb1.cell (p := ⟨w.heap.size, 0, none⟩) (by simp)).trans (by rw [World.cell?_alloc_at _ _ _ _ (by simp)]; rfl)
            have q1 : w1.cell? ⟨w.heap.size, 1, none⟩ = some (.int .i64 0) := (hb1.cell (p := ⟨w.heap.size, 1, none⟩) (by simp)).trans (by rw [World.cell?_alloc_at _ _ _ _ (by simp)]; rfl)
            have r0 : w1.frozen? ⟨w.heap.size, 0, none⟩ = false := (hb1.frozen (p := ⟨w.heap.size, 0, none⟩) (by simp)).trans (by go_simp)
            have r1 : w1.frozen? ⟨w.heap.size, 1, none⟩ = false := (hb1.frozen (p := ⟨w.heap.size, 1, none⟩) (by simp)).trans (by go_simp)
            have hz1 : w.heap.size < w1.heap.size := by have := hb1.size; simp at this; omega
            have hw1 := Lib.hid (below_box hb1)
            clear hb1
            go_wp2_with fail
            refine (CB.out _).mono ?_
            rintro e w2 ⟨rfl, hb2⟩
            have p0 := (hb2.cell (p := ⟨w.heap.size, 0, none⟩) hz1).trans q0
            have p1 := (hb2.cell (p := ⟨w.heap.size, 1, none⟩) hz1).trans q1
            have t0 := (hb2.frozen (p := ⟨w.heap.size, 0, none⟩) hz1).trans r0
            have t1 := (hb2.frozen (p := ⟨w.heap.size, 1, none⟩) hz1).trans r1
            have hz2 : w.heap.size < w2.heap.size := Nat.lt_of_lt_of_le hz1 hb2.size
            have hw2 := Lib.hid (hw1.out.trans (hb2.mono hw1.out.size))
            clear hb2 q0 q1 r0 r1 hz1 hw1
            go_upto_region 8 with (fail)
            have z0 := (World.cell?_alloc_lt w2 (.cells #[.int .i64 xa, .int .i64 xb] 23) _ hz2).trans p0
            have z1 := (World.cell?_alloc_lt w2 (.cells #[.int .i64 xa, .int .i64 xb] 23) _ hz2).trans p1
            have s0 : (w2.alloc (.cells #[.int .i64 xa, .int .i64 xb] 23)).frozen? ⟨w.heap.size, 0, none⟩ = false := by go_simp
            have s1 : (w2.alloc (.cells #[.int .i64 xa, .int .i64 xb] 23)).frozen? ⟨w.heap.size, 1, none⟩ = false := by go_simp
            have hw3 := Lib.hid (hw2.out.alloc hw2.out.size (.cells #[.int .i64 xa, .int .i64 xb] 23))
            clear p0 p1 t0 t1 hw2 hz2
            generalize w2.alloc (.cells #[.int .i64 xa, .int .i64 xb] 23) = w3 at *
            go_wp2
            exact bodyPost_ret (v := .tuple #[.agg #[.int .i64 0, .int .i64 0], .int .i64 4]) (by simp [results, Tryd.results26, go_sem, z0, z1]) rfl ⟨by rw [PF.out]; rfl, below_res1 hw3.out⟩
        | true =>
          cases yb with
          | false =>
            go_wp2_with fail
            refine (CA.out _).mono ?_
            rintro e w1 ⟨rfl, hb1⟩
            have q0 : w1.cell? ⟨w.heap.size, 0, none⟩ = some (.int .i64 0) := (hb1.cell (p := ⟨w.heap.size, 0, none⟩) (by simp)).trans (by rw [World.cell?_alloc_at _ _ _ _ (by simp)]; rfl)
            have q1 : w1.cell? ⟨w.heap.size, 1, none⟩ = some (.int .i64 0) := (hb1.cell (p := ⟨w.heap.size, 1, none⟩) (by simp)).trans (by rw [World.cell?_alloc_at _ _ _ _ (by simp)]; rfl)
            have r0 : w1.frozen? ⟨w.heap.size, 0, none⟩ = false := (hb1.frozen (p := ⟨w.heap.size, 0, none⟩) (by simp)).trans (by go_simp)
            have r1 : w1.frozen? ⟨w.heap.size, 1, none⟩ = false := (hb1.frozen (p := ⟨w.heap.size, 1, none⟩) (by simp)).trans (by go_simp)
            have hz1 : w.heap.size < w1.heap.size := by have := hb1.size; simp at this; omega
            have hw1 := Lib.hid (below_box hb1)
            clear hb1
            go_wp2_with fail
            refine (CB.out _).mono ?_
            rintro e w2 ⟨rfl, hb2⟩
            have p0 := (hb2.cell (p := ⟨w.heap.size, 0, none⟩) hz1).trans q0
            have p1 := (hb2.cell (p := ⟨w.heap.size, 1, none⟩) hz1).trans q1
            have t0 := (hb2.frozen (p := ⟨w.heap.size, 0, none⟩) hz1).trans r0
            have t1 := (hb2.frozen (p := ⟨w.heap.size, 1, none⟩) hz1).trans r1
            have hz2 : w.heap.size < w2.heap.size := Nat.lt_of_lt_of_le hz1 hb2.size
            have hw2 := Lib.hid (hw1.out.trans (hb2.mono hw1.out.size))
            clear hb2 q0 q1 r0 r1 hz1 hw1
            go_upto_region 8 with (fail)
            have z0 := (World.cell?_alloc_lt w2 (.cells #[.int .i64 xa, .int .i64 xb] 23) _ hz2).trans p0
            have z1 := (World.cell?_alloc_lt w2 (.cells #[.int .i64 xa, .int .i64 xb] 23) _ hz2).trans p1
            have s0 : (w2.alloc (.cells #[.int .i64 xa, .int .i64 xb] 23)).frozen? ⟨w.heap.size, 0, none⟩ = false := by go_simp
            have s1 : (w2.alloc (.cells #[.int .i64 xa, .int .i64 xb] 23)).frozen? ⟨w.heap.size, 1, none⟩ = false := by go_simp
            have hw3 := Lib.hid (hw2.out.alloc hw2.out.size (.cells #[.int .i64 xa, .int .i64 xb] 23))
            clear p0 p1 t0 t1 hw2 hz2
            generalize w2.alloc (.cells #[.int .i64 xa, .int .i64 xb] 23) = w3 at *
            go_wp2
            exact bodyPost_ret (v := .tuple #[.agg #[.int .i64 0, .int .i64 0], .int .i64 4]) (by simp [results, Tryd.results26, go_sem, z0, z1]) rfl ⟨by rw [PF.out]; rfl, below_res1 hw3.out⟩
          | true =>
            cases hv : vldW xa xb with
            | false =>
              have HV := Lib.hid hv
              clear hv
              go_wp2_with fail
              refine (CA.out _).mono ?_
              rintro e w1 ⟨rfl, hb1⟩
              have q0 : w1.cell? ⟨w.heap.size, 0, none⟩ = some (.int .i64 0) := (hb1.cell (p := ⟨w.heap.size, 0, none⟩) (by simp)).trans (by rw [World.cell?_alloc_at _ _ _ _ (by simp)]; rfl)
              have q1 : w1.cell? ⟨w.heap.size, 1, none⟩ = some (.int .i64 0) := (hb1.cell (p := ⟨w.heap.size, 1, none⟩) (by simp)).trans (by rw [World.cell?_alloc_at _ _ _ _ (by simp)]; rfl)
              have r0 : w1.frozen? ⟨w.heap.size, 0, none⟩ = false := (hb1.frozen (p := ⟨w.heap.size, 0, none⟩) (by simp)).trans (by go_simp)
              have r1 : w1.frozen? ⟨w.heap.size, 1, none⟩ = false := (hb1.frozen (p := ⟨w.heap.size, 1, none⟩) (by simp)).trans (by go_simp)
              have hz1 : w.heap.size < w1.heap.size := by have := hb1.size; simp at this; omega
              have hw1 := Lib.hid (below_box hb1)
              clear hb1
              go_wp2_with fail
              refine (CB.out _).mono ?_
              rintro e w2 ⟨rfl, hb2⟩
              have p0 := (hb2.cell (p := ⟨w.heap.size, 0, none⟩) hz1).trans q0
              have p1 := (hb2.cell (p := ⟨w.heap.size, 1, none⟩) hz1).trans q1
              have t0 := (hb2.frozen (p := ⟨w.heap.size, 0, none⟩) hz1).trans r0
              have t1 := (hb2.frozen (p := ⟨w.heap.size, 1, none⟩) hz1).trans r1
              have hz2 : w.heap.size < w2.heap.size := Nat.lt_of_lt_of_le hz1 hb2.size
              have hw2 := Lib.hid (hw1.out.trans (hb2.mono hw1.out.size))
              clear hb2 q0 q1 r0 r1 hz1 hw1
              go_wp2_with fail
              refine (valid_ref _ _ _).mono ?_
              rw [HV.out]
              rintro e w3 ⟨rfl, hb3⟩
              have q0 := (hb3.cell (p := ⟨w.heap.size, 0, none⟩) (by simp; omega)).trans ((World.cell?_alloc_lt _ _ _ hz2).trans p0)
              have q1 := (hb3.cell (p := ⟨w.heap.size, 1, none⟩) (by simp; omega)).trans ((World.cell?_alloc_lt _ _ _ hz2).trans p1)
              have r0 := (hb3.frozen (p := ⟨w.heap.size, 0, none⟩) (by simp; omega)).trans (show _ = false by go_simp)
              have r1 := (hb3.frozen (p := ⟨w.heap.size, 1, none⟩) (by simp; omega)).trans (show _ = false by go_simp)
              obtain ⟨hc3, hf3⟩ := bcell hb3
              have hw3 := Lib.hid (hw2.out.trans ((below_box hb3).mono hw2.out.size))
              go_wp2
              exact bodyPost_ret (v := .tuple #[.agg #[.int .i64 0, .int .i64 0], .int .i64 2]) (by simp [results, Tryd.results26, go_sem, q0, q1]) rfl ⟨by rw [PF.out, if_pos (by simp), HV.out]; rfl, below_res1 hw3.out⟩
            | true =>
              have HV := Lib.hid hv
              clear hv
              go_wp2_with fail
              refine (CA.out _).mono ?_
              rintro e w1 ⟨rfl, hb1⟩
              have q0 : w1.cell? ⟨w.heap.size, 0, none⟩ = some (.int .i64 0) := (hb1.cell (p := ⟨w.heap.size, 0, none⟩) (by simp)).trans (by rw [World.cell?_alloc_at _ _ _ _ (by simp)]; rfl)
              have q1 : w1.cell? ⟨w.heap.size, 1, none⟩ = some (.int .i64 0) := (hb1.cell (p := ⟨w.heap.size, 1, none⟩) (by simp)).trans (by rw [World.cell?_alloc_at _ _ _ _ (by simp)]; rfl)
              have r0 : w1.frozen? ⟨w.heap.size, 0, none⟩ = false := (hb1.frozen (p := ⟨w.heap.size, 0, none⟩) (by simp)).trans (by go_simp)
              have r1 : w1.frozen? ⟨w.heap.size, 1, none⟩ = false := (hb1.frozen (p := ⟨w.heap.size, 1, none⟩) (by simp)).trans (by go_simp)
              have hz1 : w.heap.size < w1.heap.size := by have := hb1.size; simp at this; omega
              have hw1 := Lib.hid (below_box hb1)
              clear hb1
              go_wp2_with fail
              refine (CB.out _).mono ?_
              rintro e w2 ⟨rfl, hb2⟩
              have p0 := (hb2.cell (p := ⟨w.heap.size, 0, none⟩) hz1).trans q0
              have p1 := (hb2.cell (p := ⟨w.heap.size, 1, none⟩) hz1).trans q1
              have t0 := (hb2.frozen (p := ⟨w.heap.size, 0, none⟩) hz1).trans r0
              have t1 := (hb2.frozen (p := ⟨w.heap.size, 1, none⟩) hz1).trans r1
              have hz2 : w.heap.size < w2.heap.size := Nat.lt_of_lt_of_le hz1 hb2.size
              have hw2 := Lib.hid (hw1.out.trans (hb2.mono hw1.out.size))
              clear hb2 q0 q1 r0 r1 hz1 hw1
              go_wp2_with fail
              refine (valid_ref _ _ _).mono ?_
              rw [HV.out]
              rintro e w3 ⟨rfl, hb3⟩
              have q0 := (hb3.cell (p := ⟨w.heap.size, 0, none⟩) (by simp; omega)).trans ((World.cell?_alloc_lt _ _ _ hz2).trans p0)
              have q1 := (hb3.cell (p := ⟨w.heap.size, 1, none⟩) (by simp; omega)).trans ((World.cell?_alloc_lt _ _ _ hz2).trans p1)
              have r0 := (hb3.frozen (p := ⟨w.heap.size, 0, none⟩) (by simp; omega)).trans (show _ = false by go_simp)
              have r1 := (hb3.frozen (p := ⟨w.heap.size, 1, none⟩) (by simp; omega)).trans (show _ = false by go_simp)
              obtain ⟨hc3, hf3⟩ := bcell hb3
              have hw3 := Lib.hid (hw2.out.trans ((below_box hb3).mono hw2.out.size))
              go_wp2
              exact bodyPost_ret (v := .tuple #[.agg #[.int .i64 xa, .int .i64 xb], .int .i64 0]) (by simp [results, Tryd.results26, go_sem, q0, q1]) rfl ⟨by rw [PF.out, if_pos (by simp), HV.out]; rfl, below_res1 hw3.out⟩
      · have f1 : ((s[k].toNat : Int) == 44) = false := by simpa using hc
        have HS := Lib.hid (take_snoc s k hlt)
        clear hc
        go_wp2
        go_round
        case rel =>
          refine ⟨k + 1, by omega, by go_num, ?_⟩
          show 44 ∉ s.data.toList.take (k + 1)
          rw [HS.out, List.mem_append]
          rintro (h | h)
          · exact hn.out h
          · have h := List.mem_singleton.1 h
            rw [← h] at f1
            exact absurd f1 (by decide)
        case measure => simp [intOf]; omega
    · have e : s.data.toList.take k = s.data.toList := List.take_of_length_le (by rw [len_data]; omega)
      have E := Lib.hid (NONE.out (by rw [← e]; exact hn.out))
      clear e
      go_wp2
      exact bodyPost_ret (v := .tuple #[.agg #[.int .i64 0, .int .i64 0], .int .i64 4]) (by simp [results, Tryd.results26, go_sem]) rfl ⟨by rw [E.out], (Below.refl _ _).alloc (Nat.le_refl _) _⟩
end Go.Proofs.YtdfpbojlimeccaaDoor
