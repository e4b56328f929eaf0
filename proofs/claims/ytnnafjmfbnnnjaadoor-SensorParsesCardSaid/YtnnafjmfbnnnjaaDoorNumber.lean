/-
  The walks of numbers of fields: the program's and the reference's.
-/
import Derived.Test.YtnnafjmfbnnnjaaDoorNumPlain
import Derived.Test.YtnnafjmfbnnnjaaDoorEnv41
import Derived.LoopTactic
namespace Go.Proofs.YtnnafjmfbnnnjaaDoor
set_option linter.unusedVariables false
open Go.RowKit

def NumRel (t : ByteArray) (s6 s7 : Value) : Prop := ∃ k : Nat, k ≤ t.size ∧ s7 = .int .i64 k ∧ s6 = .int .i64 (valT (t.data.toList.take k)) ∧ Hid ((t.data.toList.take k).all isDig = true)
theorem nret_ib {a b : Int} {x y : Bool} (p : Int × Bool) (h : p = (b, y)) (ha : a = b) (hx : x = y) : Ending.returned (.tuple #[.int .i64 a, .bool x]) = .returned (.tuple #[.int .i64 p.1, .bool p.2]) := by rw [h, ha, hx]
theorem ba_eta (t : ByteArray) : (⟨t.data.toList.toArray⟩ : ByteArray) = t := by cases t; simp
theorem cutp_any (s t : ByteArray) (neg : Bool) (w : World) (ht : Lib.trimPrefix s.data.toList [45] = t.data.toList) (hn : Lib.hasPrefix s.data.toList [45] = neg) :
    Calls Tryd.prog 84 #[.string s, .string ⟨#[45]⟩] w fun e w' => e = .returned (.tuple #[.string t, .bool neg]) ∧ w = w' :=
  (Tryd.strings_CutPrefix s ⟨#[45]⟩ w).mono fun e w' ⟨he, hw⟩ => ⟨by
    rw [he]
    show Ending.returned (.tuple #[.string ⟨(Lib.trimPrefix s.data.toList [45]).toArray⟩, .bool (Lib.hasPrefix s.data.toList [45])]) = _
    rw [ht, hn, ba_eta], hw.symm⟩
set_option maxHeartbeats 2000000 in
theorem number_short (s t : ByteArray) (neg : Bool) (w : World) (hs : t.size ≤ 4294967280) (HC : Hid (∀ w, Calls Tryd.prog 84 #[.string s, .string ⟨#[45]⟩] w fun e w' => e = .returned (.tuple #[.string t, .bool neg]) ∧ w = w'))
    (h : (t.size < 1 ∨ 15 < t.size) ∨ ∃ hp : 0 < t.size, t.size ≤ 15 ∧ (t[0].toNat : Int) = 48 ∧ (1 < t.size ∨ neg = true)) :
    Calls Tryd.prog 64 #[.string s] w fun e w' => e = .returned (.tuple #[.int .i64 (numD t.data.toList neg).1, .bool (numD t.data.toList neg).2]) ∧ w = w' := by
  by_cases h0 : t.size < 1
  · have f1 : decide ((t.size : Int) < 1) = true := by simp; omega
    have hr := Lib.hid (numD_len t neg (.inl h0))
    clear h
    obtain rfl : t = ⟨#[]⟩ := by
      have : t.data.toList = [] := List.eq_nil_of_length_eq_zero (by rw [len_data]; omega)
      rw [← ba_eta t, this]
    clear h0 hs f1
    have HR := Lib.hid (show numD (⟨#[]⟩ : ByteArray).data.toList neg = (0, false) from hr.out)
    clear hr
    go_enter Tryd.func64, Tryd.ntmps64
    go_wp2_with (go_at_call 84; refine (HC.out _).mono ?_; rintro e w' ⟨rfl, rfl⟩)
    go_ret2
    exact ⟨nret_ib _ HR.out rfl rfl, rfl⟩
  · have f1 : decide ((t.size : Int) < 1) = false := by simp; omega
    have f1' : decide (t.size < 1) = false := decide_eq_false (by omega)
    have f1'' : decide (t.size = 0) = false := decide_eq_false (by omega)
    by_cases h2 : 15 < t.size
    · have f2 : decide (15 < (t.size : Int)) = true := by simp; omega
      have f2' : decide (15 < t.size) = true := by simpa using h2
      have hr := Lib.hid (numD_len t neg (.inr h2))
      clear h
      go_enter Tryd.func64, Tryd.ntmps64
      go_wp2_with (go_at_call 84; refine (HC.out _).mono ?_; rintro e w' ⟨rfl, rfl⟩)
      go_ret2
      exact ⟨nret_ib _ hr.out rfl rfl, rfl⟩
    · have f2 : decide (15 < (t.size : Int)) = false := by simp; omega
      have f2' : decide (15 < t.size) = false := by simpa using h2
      obtain ⟨hp, -, hz, h1⟩ : ∃ hp : 0 < t.size, t.size ≤ 15 ∧ (t[0].toNat : Int) = 48 ∧ (1 < t.size ∨ neg = true) := by rcases h with h | h; omega; exact h
      have f3 : ((t[0].toNat : Int) == 48) = true := by simpa using hz
      have hr := Lib.hid (numD_zero t neg hp (by omega) hz h1)
      by_cases h3 : 1 < t.size
      · have f4 : decide (1 < (t.size : Int)) = true := by simp; omega
        have f4' : decide (1 < t.size) = true := by simpa using h3
        clear h1 hz h
        go_enter Tryd.func64, Tryd.ntmps64
        go_wp2_with (go_at_call 84; refine (HC.out _).mono ?_; rintro e w' ⟨rfl, rfl⟩)
        go_ret2
        exact ⟨nret_ib _ hr.out rfl rfl, rfl⟩
      · have f4 : decide (1 < (t.size : Int)) = false := by simp; omega
        have f4' : decide (1 < t.size) = false := by simpa using h3
        obtain rfl : neg = true := by rcases h1 with h | h; exact absurd h h3; exact h
        clear h1 hz h
        go_enter Tryd.func64, Tryd.ntmps64
        go_wp2_with (go_at_call 84; refine (HC.out _).mono ?_; rintro e w' ⟨rfl, rfl⟩)
        go_ret2
        exact ⟨nret_ib _ hr.out rfl rfl, rfl⟩
set_option maxHeartbeats 2000000 in
theorem number_loop (s t : ByteArray) (neg : Bool) (w : World) (hs : t.size ≤ 4294967280) (HC : Hid (∀ w, Calls Tryd.prog 84 #[.string s, .string ⟨#[45]⟩] w fun e w' => e = .returned (.tuple #[.string t, .bool neg]) ∧ w = w'))
    (hp : 0 < t.size) (hm : t.size ≤ 15) (h : ¬ ((t[0].toNat : Int) = 48 ∧ (1 < t.size ∨ neg = true))) :
    Calls Tryd.prog 64 #[.string s] w fun e w' => e = .returned (.tuple #[.int .i64 (numD t.data.toList neg).1, .bool (numD t.data.toList neg).2]) ∧ w = w' := by
  have f1 : decide ((t.size : Int) < 1) = false := by simp; omega
  have f1' : decide (t.size < 1) = false := decide_eq_false (by omega)
  have f1'' : decide (t.size = 0) = false := decide_eq_false (by omega)
  have f2 : decide (15 < (t.size : Int)) = false := by simp; omega
  have f2' : decide (15 < t.size) = false := by simp; omega
  have GOOD := Lib.hid (numD_good t neg hp hm h)
  have BAD := Lib.hid (numD_bad t neg)
  by_cases hz : (t[0].toNat : Int) = 48
  · have f3 : ((t[0].toNat : Int) == 48) = true := by simpa using hz
    have h1 : ¬ 1 < t.size := fun g => h ⟨hz, .inl g⟩
    have f4 : decide (1 < (t.size : Int)) = false := by simp; omega
    have f4' : decide (1 < t.size) = false := by simpa using h1
    obtain rfl : neg = false := by cases neg with
      | false => rfl
      | true => exact absurd ⟨hz, .inr rfl⟩ h
    clear h hz h1
    go_enter Tryd.func64, Tryd.ntmps64
    go_wp2_with (go_at_call 84; refine (HC.out _).mono ?_; rintro e w' ⟨rfl, rfl⟩)
    go_loop [6, 36] (NumRel t) (fun _ i => t.size - (intOf i).toNat)
    case atStart => exact ⟨0, Nat.zero_le _, rfl, rfl, (rfl : (t.data.toList.take 0).all isDig = true)⟩
    case round =>
      obtain ⟨k, hk, rfl, rfl, hd⟩ := hrel
      obtain ⟨v0, v1⟩ := valT_bd hd.out (by rw [List.length_take]; omega)
      by_cases hlt : k < t.size
      · have HS := Lib.hid (take_snoc t k hlt)
        go_wp2
        · go_ret2
          exact ⟨nret_ib _ (BAD.out k hlt (by unfold isDig; simp; omega)) rfl rfl, rfl⟩
        · go_round
          case rel =>
            refine ⟨k + 1, by omega, by go_num, ?_, ?_⟩
            · rw [HS.out, valT_snoc]
            · show (t.data.toList.take (k + 1)).all isDig = true
              rw [HS.out, List.all_append, hd.out]
              simp [isDig]; omega
          case measure => simp [intOf]; omega
        · go_ret2
          exact ⟨nret_ib _ (BAD.out k hlt (by unfold isDig; simp; omega)) rfl rfl, rfl⟩
      · have e : t.data.toList.take k = t.data.toList := List.take_of_length_le (by rw [len_data]; omega)
        have E := Lib.hid e
        have G := Lib.hid (GOOD.out (by rw [← e]; exact hd.out))
        clear e
        go_wp2
        go_ret2
        exact ⟨nret_ib _ G.out (by rw [E.out]; rfl) rfl, rfl⟩
  · have f3 : ((t[0].toNat : Int) == 48) = false := by simpa using hz
    clear h hz
    cases neg
    · skip
      go_enter Tryd.func64, Tryd.ntmps64
      go_wp2_with (go_at_call 84; refine (HC.out _).mono ?_; rintro e w' ⟨rfl, rfl⟩)
      go_loop [6, 36] (NumRel t) (fun _ i => t.size - (intOf i).toNat)
      case atStart => exact ⟨0, Nat.zero_le _, rfl, rfl, (rfl : (t.data.toList.take 0).all isDig = true)⟩
      case round =>
        obtain ⟨k, hk, rfl, rfl, hd⟩ := hrel
        obtain ⟨v0, v1⟩ := valT_bd hd.out (by rw [List.length_take]; omega)
        by_cases hlt : k < t.size
        · have HS := Lib.hid (take_snoc t k hlt)
          go_wp2
          · go_ret2
            exact ⟨nret_ib _ (BAD.out k hlt (by unfold isDig; simp; omega)) rfl rfl, rfl⟩
          · go_round
            case rel =>
              refine ⟨k + 1, by omega, by go_num, ?_, ?_⟩
              · rw [HS.out, valT_snoc]
              · show (t.data.toList.take (k + 1)).all isDig = true
                rw [HS.out, List.all_append, hd.out]
                simp [isDig]; omega
            case measure => simp [intOf]; omega
          · go_ret2
            exact ⟨nret_ib _ (BAD.out k hlt (by unfold isDig; simp; omega)) rfl rfl, rfl⟩
        · have e : t.data.toList.take k = t.data.toList := List.take_of_length_le (by rw [len_data]; omega)
          have E := Lib.hid e
          have G := Lib.hid (GOOD.out (by rw [← e]; exact hd.out))
          clear e
          go_wp2
          go_ret2
          exact ⟨nret_ib _ G.out (by rw [E.out]; rfl) rfl, rfl⟩
    · skip
      go_enter Tryd.func64, Tryd.ntmps64
      go_wp2_with (go_at_call 84; refine (HC.out _).mono ?_; rintro e w' ⟨rfl, rfl⟩)
      go_loop [6, 36] (NumRel t) (fun _ i => t.size - (intOf i).toNat)
      case atStart => exact ⟨0, Nat.zero_le _, rfl, rfl, (rfl : (t.data.toList.take 0).all isDig = true)⟩
      case round =>
        obtain ⟨k, hk, rfl, rfl, hd⟩ := hrel
        obtain ⟨v0, v1⟩ := valT_bd hd.out (by rw [List.length_take]; omega)
        by_cases hlt : k < t.size
        · have HS := Lib.hid (take_snoc t k hlt)
          go_wp2
          · go_ret2
            exact ⟨nret_ib _ (BAD.out k hlt (by unfold isDig; simp; omega)) rfl rfl, rfl⟩
          · go_round
            case rel =>
              refine ⟨k + 1, by omega, by go_num, ?_, ?_⟩
              · rw [HS.out, valT_snoc]
              · show (t.data.toList.take (k + 1)).all isDig = true
                rw [HS.out, List.all_append, hd.out]
                simp [isDig]; omega
            case measure => simp [intOf]; omega
          · go_ret2
            exact ⟨nret_ib _ (BAD.out k hlt (by unfold isDig; simp; omega)) rfl rfl, rfl⟩
        · have e : t.data.toList.take k = t.data.toList := List.take_of_length_le (by rw [len_data]; omega)
          have E := Lib.hid e
          have G := Lib.hid (GOOD.out (by rw [← e]; exact hd.out))
          clear e
          go_wp2
          go_ret2
          exact ⟨nret_ib _ G.out (by rw [E.out]; rfl) rfl, rfl⟩

theorem trim_size (s : ByteArray) : (Lib.trimPrefix s.data.toList [45]).length ≤ s.size := by
  unfold Lib.trimPrefix
  rw [← len_data]
  split
  · rw [List.length_drop]; omega
  · exact Nat.le_refl _
/-- the number of a field -/
def numF (s : List UInt8) : Int × Bool := numD (Lib.trimPrefix s [45]) (Lib.hasPrefix s [45])
theorem number_any (s : ByteArray) (w : World) (hs : s.size ≤ 4294967280) :
    Calls Tryd.prog 64 #[.string s] w fun e w' => e = .returned (.tuple #[.int .i64 (numF s.data.toList).1, .bool (numF s.data.toList).2]) ∧ w = w' := by
  obtain ⟨t, ht⟩ : ∃ t : ByteArray, Lib.trimPrefix s.data.toList [45] = t.data.toList := ⟨⟨(Lib.trimPrefix s.data.toList [45]).toArray⟩, rfl⟩
  have hsz : t.size ≤ 4294967280 := by have := trim_size s; rw [ht, len_data] at this; omega
  have HC := Lib.hid (fun w => cutp_any s t (Lib.hasPrefix s.data.toList [45]) w ht rfl)
  unfold numF
  rw [ht]
  by_cases h : (t.size < 1 ∨ 15 < t.size) ∨ ∃ hp : 0 < t.size, t.size ≤ 15 ∧ (t[0].toNat : Int) = 48 ∧ (1 < t.size ∨ Lib.hasPrefix s.data.toList [45] = true)
  · exact number_short s t _ w hsz HC h
  · have hp : 0 < t.size := by rcases Nat.eq_zero_or_pos t.size with h0 | h0; exact absurd (.inl (.inl (by omega))) h; exact h0
    have hm : t.size ≤ 15 := Nat.le_of_not_lt fun g => h (.inl (.inr g))
    exact number_loop s t _ w hsz HC hp hm (fun g => h (.inr ⟨hp, hm, g⟩))
set_option maxHeartbeats 2000000 in
theorem refnum_true (s t : ByteArray) (w : World) (hs : s.size ≤ 4294967280) (hp0 : 0 < s.size) (h45 : (s[0].toNat : Int) = 45) (ht : s.extract 1 s.size = t) :
    Calls Tryd.prog 67 #[.string s] w fun e w' => e = .returned (.tuple #[.int .i64 (numD t.data.toList true).1, .bool (numD t.data.toList true).2]) ∧ w = w' := by
  have hts : t.size + 1 = s.size := by rw [← ht, ByteArray.size_extract]; omega
  have e0 : decide (0 < s.size) = true := by simpa using hp0
  have e0' : decide (0 < (s.size : Int)) = true := by simp; omega
  have e1 : ((s[0].toNat : Int) == 45) = true := by simpa using h45
  have e2 : decide (t.size < s.size) = true := decide_eq_true (by omega)
  have e2' : decide ((t.size : Int) < (s.size : Int)) = true := decide_eq_true (by omega)
  have e3 : decide (1 < s.size) = decide (0 < t.size) := by rw [decide_eq_decide]; omega
  clear h45
  have LEN := Lib.hid (numD_len t true)
  have ZERO := Lib.hid (numD_zero t true)
  have BAD := Lib.hid (numD_bad t true)
  have GOODA := Lib.hid (numD_good t true)
  by_cases h0 : t.size < 1
  · have f1 : decide ((t.size : Int) < 1) = true := decide_eq_true (by omega)
    have f1' : decide (t.size < 1) = true := decide_eq_true (by omega)
    have f1'' : decide (t.size = 0) = true := decide_eq_true (by omega)
    have hr := Lib.hid (LEN.out (.inl h0))
    have te : t = ⟨#[]⟩ := by
      have : t.data.toList = [] := List.eq_nil_of_length_eq_zero (by rw [len_data]; omega)
      rw [← ba_eta t, this]
    have HR := Lib.hid (show numD t.data.toList true = (0, false) from hr.out)
    rw [te] at ht
    clear hr e2 e2' e3 f1 f1' f1'' h0
    go_enter Tryd.func67, Tryd.ntmps67
    go_wp2
    go_ret2
    exact ⟨nret_ib _ (by first | exact HR.out | decide) rfl rfl, rfl⟩
  · have f1 : decide ((t.size : Int) < 1) = false := decide_eq_false (by omega)
    have f1' : decide (t.size < 1) = false := decide_eq_false (by omega)
    have f1'' : decide (t.size = 0) = false := decide_eq_false (by omega)
    by_cases h2 : 15 < t.size
    · have f2 : decide (15 < (t.size : Int)) = true := decide_eq_true (by omega)
      have f2' : decide (15 < t.size) = true := decide_eq_true (by omega)
      have hr := Lib.hid (LEN.out (.inr h2))
      go_enter Tryd.func67, Tryd.ntmps67
      go_wp2
      go_ret2
      exact ⟨nret_ib _ hr.out rfl rfl, rfl⟩
    · have f2 : decide (15 < (t.size : Int)) = false := decide_eq_false (by omega)
      have f2' : decide (15 < t.size) = false := decide_eq_false (by omega)
      by_cases hz : (t[0]'(by omega)).toNat = (48 : Int)
      · have f3 : (((t[0]'(by omega)).toNat : Int) == 48) = true := by simpa using hz
        have f4 : decide (1 < s.size) = true := decide_eq_true (by omega)
        have f4' : decide (1 < (s.size : Int)) = true := decide_eq_true (by omega)
        have hr := Lib.hid (ZERO.out (by omega) (by omega) hz (.inr rfl))
        clear hz e3
        go_enter Tryd.func67, Tryd.ntmps67
        go_wp2
        go_ret2
        exact ⟨nret_ib _ hr.out rfl rfl, rfl⟩
      · have f3 : (((t[0]'(by omega)).toNat : Int) == 48) = false := by simpa using hz
        have GOOD := Lib.hid (GOODA.out (by omega) (by omega) (fun g => hz g.1))
        clear hz e3
        go_enter Tryd.func67, Tryd.ntmps67
        go_wp2
        go_loop [5, 6] (NumRel t) (fun _ i => t.size - (intOf i).toNat)
        case atStart => exact ⟨0, Nat.zero_le _, rfl, rfl, (rfl : (t.data.toList.take 0).all isDig = true)⟩
        case round =>
          obtain ⟨k, hk, rfl, rfl, hd⟩ := hrel
          obtain ⟨v0, v1⟩ := valT_bd hd.out (by rw [List.length_take]; omega)
          by_cases hlt : k < t.size
          · have HS := Lib.hid (take_snoc t k hlt)
            go_wp2
            · go_ret2
              exact ⟨nret_ib _ (BAD.out k hlt (by unfold isDig; simp; omega)) rfl rfl, rfl⟩
            · go_round
              case rel =>
                refine ⟨k + 1, by omega, by go_num, ?_, ?_⟩
                · rw [HS.out, valT_snoc]
                · show (t.data.toList.take (k + 1)).all isDig = true
                  rw [HS.out, List.all_append, hd.out]
                  simp [isDig]; omega
              case measure => simp [intOf]; omega
            · go_ret2
              exact ⟨nret_ib _ (BAD.out k hlt (by unfold isDig; simp; omega)) rfl rfl, rfl⟩
          · have e : t.data.toList.take k = t.data.toList := List.take_of_length_le (by rw [len_data]; omega)
            have E := Lib.hid e
            have G := Lib.hid (GOOD.out (by rw [← e]; exact hd.out))
            clear e
            go_wp2
            go_ret2
            exact ⟨nret_ib _ G.out (by rw [E.out]; rfl) rfl, rfl⟩
set_option maxHeartbeats 2000000 in
theorem refnum_false (t : ByteArray) (w : World) (hs : t.size ≤ 4294967280) (hno : ¬ ∃ hp0 : 0 < t.size, (t[0].toNat : Int) = 45) :
    Calls Tryd.prog 67 #[.string t] w fun e w' => e = .returned (.tuple #[.int .i64 (numD t.data.toList false).1, .bool (numD t.data.toList false).2]) ∧ w = w' := by
  have LEN := Lib.hid (numD_len t false)
  have ZERO := Lib.hid (numD_zero t false)
  have BAD := Lib.hid (numD_bad t false)
  have GOODA := Lib.hid (numD_good t false)
  by_cases h0 : t.size < 1
  · have f1 : decide ((t.size : Int) < 1) = true := decide_eq_true (by omega)
    have f1' : decide (t.size < 1) = true := decide_eq_true (by omega)
    have f1'' : decide (t.size = 0) = true := decide_eq_true (by omega)
    have hr := Lib.hid (LEN.out (.inl h0))
    have e0 : decide (0 < t.size) = false := decide_eq_false (by omega)
    have e0' : decide (0 < (t.size : Int)) = false := decide_eq_false (by omega)
    obtain rfl : t = ⟨#[]⟩ := by
      have : t.data.toList = [] := List.eq_nil_of_length_eq_zero (by rw [len_data]; omega)
      rw [← ba_eta t, this]
    have HR := Lib.hid (show numD (⟨#[]⟩ : ByteArray).data.toList false = (0, false) from hr.out)
    clear hr e0 e0' f1 f1' f1'' h0 hno
    go_enter Tryd.func67, Tryd.ntmps67
    go_wp2
    go_ret2
    exact ⟨nret_ib _ (by first | exact HR.out | decide) rfl rfl, rfl⟩
  · have f1 : decide ((t.size : Int) < 1) = false := decide_eq_false (by omega)
    have f1' : decide (t.size < 1) = false := decide_eq_false (by omega)
    have f1'' : decide (t.size = 0) = false := decide_eq_false (by omega)
    have e0 : decide (0 < t.size) = true := decide_eq_true (by omega)
    have e0' : decide (0 < (t.size : Int)) = true := decide_eq_true (by omega)
    have e1 : ((t[0].toNat : Int) == 45) = false := by have : ¬ (t[0].toNat : Int) = 45 := fun g => hno ⟨by omega, g⟩; simpa using this
    by_cases h2 : 15 < t.size
    · have f2 : decide (15 < (t.size : Int)) = true := decide_eq_true (by omega)
      have f2' : decide (15 < t.size) = true := decide_eq_true (by omega)
      have hr := Lib.hid (LEN.out (.inr h2))
      go_enter Tryd.func67, Tryd.ntmps67
      go_wp2
      go_ret2
      exact ⟨nret_ib _ hr.out rfl rfl, rfl⟩
    · have f2 : decide (15 < (t.size : Int)) = false := decide_eq_false (by omega)
      have f2' : decide (15 < t.size) = false := decide_eq_false (by omega)
      by_cases hz : (t[0]'(by omega)).toNat = (48 : Int)
      · have f3 : (((t[0]'(by omega)).toNat : Int) == 48) = true := by simpa using hz
        by_cases h3 : 1 < t.size
        · have f4 : decide (1 < t.size) = true := decide_eq_true (by omega)
          have f4' : decide (1 < (t.size : Int)) = true := decide_eq_true (by omega)
          have hr := Lib.hid (ZERO.out (by omega) (by omega) hz (.inl h3))
          clear hz hno
          go_enter Tryd.func67, Tryd.ntmps67
          go_wp2
          go_ret2
          exact ⟨nret_ib _ hr.out rfl rfl, rfl⟩
        · have f4 : decide (1 < t.size) = false := decide_eq_false (by omega)
          have f4' : decide (1 < (t.size : Int)) = false := decide_eq_false (by omega)
          have GOOD := Lib.hid (GOODA.out (by omega) (by omega) (by rintro ⟨_, g | g⟩; exact h3 g; cases g))
          clear hz hno
          go_enter Tryd.func67, Tryd.ntmps67
          go_wp2
          go_loop [5, 6] (NumRel t) (fun _ i => t.size - (intOf i).toNat)
          case atStart => exact ⟨0, Nat.zero_le _, rfl, rfl, (rfl : (t.data.toList.take 0).all isDig = true)⟩
          case round =>
            obtain ⟨k, hk, rfl, rfl, hd⟩ := hrel
            obtain ⟨v0, v1⟩ := valT_bd hd.out (by rw [List.length_take]; omega)
            by_cases hlt : k < t.size
            · have HS := Lib.hid (take_snoc t k hlt)
              go_wp2
              · go_ret2
                exact ⟨nret_ib _ (BAD.out k hlt (by unfold isDig; simp; omega)) rfl rfl, rfl⟩
              · go_round
                case rel =>
                  refine ⟨k + 1, by omega, by go_num, ?_, ?_⟩
                  · rw [HS.out, valT_snoc]
                  · show (t.data.toList.take (k + 1)).all isDig = true
                    rw [HS.out, List.all_append, hd.out]
                    simp [isDig]; omega
                case measure => simp [intOf]; omega
              · go_ret2
                exact ⟨nret_ib _ (BAD.out k hlt (by unfold isDig; simp; omega)) rfl rfl, rfl⟩
            · have e : t.data.toList.take k = t.data.toList := List.take_of_length_le (by rw [len_data]; omega)
              have E := Lib.hid e
              have G := Lib.hid (GOOD.out (by rw [← e]; exact hd.out))
              clear e
              go_wp2
              go_ret2
              exact ⟨nret_ib _ G.out (by rw [E.out]; rfl) rfl, rfl⟩
      · have f3 : (((t[0]'(by omega)).toNat : Int) == 48) = false := by simpa using hz
        have GOOD := Lib.hid (GOODA.out (by omega) (by omega) (fun g => hz g.1))
        clear hz hno
        go_enter Tryd.func67, Tryd.ntmps67
        go_wp2
        go_loop [5, 6] (NumRel t) (fun _ i => t.size - (intOf i).toNat)
        case atStart => exact ⟨0, Nat.zero_le _, rfl, rfl, (rfl : (t.data.toList.take 0).all isDig = true)⟩
        case round =>
          obtain ⟨k, hk, rfl, rfl, hd⟩ := hrel
          obtain ⟨v0, v1⟩ := valT_bd hd.out (by rw [List.length_take]; omega)
          by_cases hlt : k < t.size
          · have HS := Lib.hid (take_snoc t k hlt)
            go_wp2
            · go_ret2
              exact ⟨nret_ib _ (BAD.out k hlt (by unfold isDig; simp; omega)) rfl rfl, rfl⟩
            · go_round
              case rel =>
                refine ⟨k + 1, by omega, by go_num, ?_, ?_⟩
                · rw [HS.out, valT_snoc]
                · show (t.data.toList.take (k + 1)).all isDig = true
                  rw [HS.out, List.all_append, hd.out]
                  simp [isDig]; omega
              case measure => simp [intOf]; omega
            · go_ret2
              exact ⟨nret_ib _ (BAD.out k hlt (by unfold isDig; simp; omega)) rfl rfl, rfl⟩
          · have e : t.data.toList.take k = t.data.toList := List.take_of_length_le (by rw [len_data]; omega)
            have E := Lib.hid e
            have G := Lib.hid (GOOD.out (by rw [← e]; exact hd.out))
            clear e
            go_wp2
            go_ret2
            exact ⟨nret_ib _ G.out (by rw [E.out]; rfl) rfl, rfl⟩
theorem drop1 (s : ByteArray) : (s.extract 1 s.size).data.toList = s.data.toList.drop 1 := by
  rw [ByteArray.data_extract, Array.toList_extract]
  simp [List.extract, List.take_of_length_le]
theorem pre_minus (r : List UInt8) : Lib.hasPrefix (45 :: r) [45] = true ∧ Lib.trimPrefix (45 :: r) [45] = r := by
  unfold Lib.trimPrefix Lib.hasPrefix
  simp
theorem pre_none {l : List UInt8} (h : ∀ r, l ≠ 45 :: r) : Lib.hasPrefix l [45] = false ∧ Lib.trimPrefix l [45] = l := by
  have e : Lib.hasPrefix l [45] = false := by
    unfold Lib.hasPrefix
    cases l with
    | nil => rfl
    | cons c r =>
      by_cases hc : c = 45
      · subst hc; exact absurd rfl (h r)
      · simp [List.isPrefixOf]; exact fun e => absurd e.symm hc
  refine ⟨e, ?_⟩
  unfold Lib.trimPrefix
  rw [e]; rfl
theorem number_ref (s : ByteArray) (w : World) (hs : s.size ≤ 4294967280) :
    Calls Tryd.prog 67 #[.string s] w fun e w' => e = .returned (.tuple #[.int .i64 (numF s.data.toList).1, .bool (numF s.data.toList).2]) ∧ w = w' := by
  by_cases h : ∃ hp0 : 0 < s.size, (s[0].toNat : Int) = 45
  · obtain ⟨hp0, h45⟩ := h
    have hc : s.data.toList = 45 :: s.data.toList.drop 1 := by
      have e : s.data.toList = s.data.toList.take (0 + 1) ++ s.data.toList.drop 1 := (List.take_append_drop 1 _).symm
      conv => lhs; rw [e, take_snoc s 0 hp0]
      have : s[0] = 45 := UInt8.toNat_inj.1 (by show s[0].toNat = 45; omega)
      rw [this]; rfl
    have hn : numF s.data.toList = numD (s.extract 1 s.size).data.toList true := by
      unfold numF
      rw [drop1, hc, (pre_minus _).1, (pre_minus _).2]
      rfl
    rw [hn]
    exact refnum_true s _ w hs hp0 h45 rfl
  · have hn : numF s.data.toList = numD s.data.toList false := by
      have := pre_none (l := s.data.toList) (fun r e => h (by
        have hl : 0 < s.size := by rw [← len_data, e]; simp
        refine ⟨hl, ?_⟩
        have := head_of s hl
        rw [e] at this
        rw [← this]; rfl))
      unfold numF
      rw [this.1, this.2]
    rw [hn]
    exact refnum_false s w hs h
end Go.Proofs.YtnnafjmfbnnnjaaDoor
