/-
  Walks and laws of the layers below, gathered from several texts.
-/
import Derived.Lib.Hide
import Derived.Test.YtajmjkliblippaaGreatDoorTx1
import Derived.Lib.SlBytesConst
import Derived.Test.YtajmjkliblippaaGreatDoorEnv41
import Derived.LoopTactic
import Derived.Lib.SplitLaws
import Derived.Deep.RegionWith
import Derived.Laws.IdiomStrings
import Derived.Lib.ItoaLen
import Derived.StillTailTactics
import Derived.Deep.RegionHeld3
namespace Go.Proofs.YtajmjkliblippaaGreatDoor.Ty
set_option linter.unusedVariables false
def isDig (c : UInt8) : Bool := decide (48 ≤ (c.toNat : Int) ∧ (c.toNat : Int) ≤ 57)
def valT (l : List UInt8) : Int := l.foldl (fun n c => 10 * n + ((c.toNat : Int) - 48)) 0
def numD (d : List UInt8) (neg : Bool) : Int × Bool :=
  if d.length < 1 ∨ 15 < d.length then (0, false) else if ((d.headD 0).toNat : Int) = 48 ∧ (1 < d.length ∨ neg = true) then (0, false)
  else if d.all isDig = true then (if neg = true then -valT d else valT d, true) else (0, false)
theorem isDig_iff {c : UInt8} : isDig c = true ↔ (48 ≤ (c.toNat : Int) ∧ (c.toNat : Int) ≤ 57) := by unfold isDig; simp
theorem valT_snoc (l : List UInt8) (c : UInt8) : valT (l ++ [c]) = 10 * valT l + ((c.toNat : Int) - 48) := by
  unfold valT; rw [List.foldl_append]; rfl
theorem fold_bd : ∀ (l : List UInt8) (n : Int), l.all isDig = true → 0 ≤ n → 0 ≤ l.foldl (fun n c => 10 * n + ((c.toNat : Int) - 48)) n ∧ l.foldl (fun n c => 10 * n + ((c.toNat : Int) - 48)) n + 1 ≤ (n + 1) * 10 ^ l.length := by
  intro l
  induction l with
  | nil => intro n _ h; simp; omega
  | cons c r ih =>
    intro n h hn
    rw [List.all_cons, Bool.and_eq_true] at h
    have hc := isDig_iff.1 h.1
    obtain ⟨a, b⟩ := ih (10 * n + ((c.toNat : Int) - 48)) h.2 (by omega)
    refine ⟨a, Int.le_trans b ?_⟩
    rw [List.length_cons, Int.pow_succ, Int.mul_comm (10 ^ r.length) 10, ← Int.mul_assoc]
    exact Int.mul_le_mul_of_nonneg_right (by omega) (Int.pow_nonneg (by decide))
theorem valT_bd {l : List UInt8} (h : l.all isDig = true) (hl : l.length ≤ 15) : 0 ≤ valT l ∧ valT l < 1000000000000000 := by
  obtain ⟨a, b⟩ := fold_bd l 0 h (Int.le_refl 0)
  refine ⟨a, ?_⟩
  have hp : (10 : Int) ^ l.length ≤ 10 ^ 15 := by
    have := Nat.pow_le_pow_right (show 1 ≤ 10 by decide) hl
    exact_mod_cast this
  have e : (10 : Int) ^ 15 = 1000000000000000 := by decide
  unfold valT
  omega
theorem take_snoc (s : ByteArray) (k : Nat) (h : k < s.size) : s.data.toList.take (k + 1) = s.data.toList.take k ++ [s[k]] := by
  rw [List.take_succ_eq_append_getElem (by simpa using h)]; rfl
theorem len_data (t : ByteArray) : t.data.toList.length = t.size := by rw [Array.length_toList]; rfl
theorem head_of (t : ByteArray) (h : 0 < t.size) : t.data.toList.headD 0 = t[0] := by
  have : t.data.toList = t.data.toList.take (0 + 1) ++ t.data.toList.drop 1 := (List.take_append_drop 1 _).symm
  rw [this, take_snoc t 0 h]; rfl
theorem notall (t : ByteArray) (k : Nat) (hk : k < t.size) (h : isDig t[k] = false) : t.data.toList.all isDig = false := by
  have e : t.data.toList = t.data.toList.take (k + 1) ++ t.data.toList.drop (k + 1) := (List.take_append_drop _ _).symm
  rw [e, take_snoc t k hk, List.all_append, List.all_append]
  simp [h]
theorem numD_len (t : ByteArray) (neg : Bool) (h : t.size < 1 ∨ 15 < t.size) : numD t.data.toList neg = (0, false) := by
  unfold numD; rw [if_pos (by rw [len_data]; exact h)]
theorem numD_zero (t : ByteArray) (neg : Bool) (h : 0 < t.size) (h2 : t.size ≤ 15) (h0 : (t[0].toNat : Int) = 48) (h1 : 1 < t.size ∨ neg = true) : numD t.data.toList neg = (0, false) := by
  unfold numD; rw [if_neg (by rw [len_data]; omega), head_of t h, if_pos ⟨h0, by rw [len_data]; exact h1⟩]
theorem numD_bad (t : ByteArray) (neg : Bool) (k : Nat) (hk : k < t.size) (h : isDig t[k] = false) : numD t.data.toList neg = (0, false) := by
  unfold numD
  have := notall t k hk h
  split
  · rfl
  · split
    · rfl
    · rw [this]; rfl
theorem numD_good (t : ByteArray) (neg : Bool) (h : 0 < t.size) (h2 : t.size ≤ 15) (h1 : ¬ ((t[0].toNat : Int) = 48 ∧ (1 < t.size ∨ neg = true))) (ha : t.data.toList.all isDig = true) :
    numD t.data.toList neg = (if neg = true then -valT t.data.toList else valT t.data.toList, true) := by
  unfold numD
  rw [if_neg (by rw [len_data]; omega), head_of t h, if_neg (by rw [len_data]; exact h1), if_pos ha]
end Go.Proofs.YtajmjkliblippaaGreatDoor.Ty
namespace Go.Proofs.YtajmjkliblippaaGreatDoor.Ty
set_option linter.unusedVariables false
open Go.RowKit Tx
def NumRel (t : ByteArray) (s6 s7 : Value) : Prop := ∃ k : Nat, k ≤ t.size ∧ s7 = .int .i64 k ∧ s6 = .int .i64 (valT (t.data.toList.take k)) ∧ Hid ((t.data.toList.take k).all isDig = true)
theorem nret_ib {a b : Int} {x y : Bool} (p : Int × Bool) (h : p = (b, y)) (ha : a = b) (hx : x = y) : Ending.returned (.tuple #[.int .i64 a, .bool x]) = .returned (.tuple #[.int .i64 p.1, .bool p.2]) := by rw [h, ha, hx]
theorem ba_eta (t : ByteArray) : (⟨t.data.toList.toArray⟩ : ByteArray) = t := by cases t; simp
theorem cutp_any (s t : ByteArray) (neg : Bool) (w : World) (ht : Lib.trimPrefix s.data.toList [45] = t.data.toList) (hn : Lib.hasPrefix s.data.toList [45] = neg) :
    Calls Tryz.prog 91 #[.string s, .string ⟨#[45]⟩] w fun e w' => e = .returned (.tuple #[.string t, .bool neg]) ∧ w = w' :=
  (Tryz.strings_CutPrefix s ⟨#[45]⟩ w).mono fun e w' ⟨he, hw⟩ => ⟨by
    rw [he]
    show Ending.returned (.tuple #[.string ⟨(Lib.trimPrefix s.data.toList [45]).toArray⟩, .bool (Lib.hasPrefix s.data.toList [45])]) = _
    rw [ht, hn, ba_eta], hw.symm⟩
set_option maxHeartbeats 2000000 in
theorem number_short (s t : ByteArray) (neg : Bool) (w : World) (hs : t.size ≤ 4294967280) (HC : Hid (∀ w, Calls Tryz.prog 91 #[.string s, .string ⟨#[45]⟩] w fun e w' => e = .returned (.tuple #[.string t, .bool neg]) ∧ w = w'))
    (h : (t.size < 1 ∨ 15 < t.size) ∨ ∃ hp : 0 < t.size, t.size ≤ 15 ∧ (t[0].toNat : Int) = 48 ∧ (1 < t.size ∨ neg = true)) :
    Calls Tryz.prog 54 #[.string s] w fun e w' => e = .returned (.tuple #[.int .i64 (numD t.data.toList neg).1, .bool (numD t.data.toList neg).2]) ∧ w = w' := by
  by_cases h0 : t.size < 1
  · have f1 : decide ((t.size : Int) < 1) = true := by simp; omega
    have hr := Lib.hid (numD_len t neg (.inl h0))
    clear h
    obtain rfl : t = ⟨#[]⟩ := by
      have : t.data.toList = [] := List.eq_nil_of_length_eq_zero (by rw [len_data]; omega)
      rw [← ba_eta t, this]
    clear h0 hs f1
    have HR := Lib.hid (show numD (⟨#[]⟩ : ByteArray).data.toList neg = (0, false) from hr.out)
    clear hr
    go_enter Tryz.func54, Tryz.ntmps54
    go_wp2_with (go_at_call 91; refine (HC.out _).mono ?_; rintro e w' ⟨rfl, rfl⟩)
    go_ret2
    exact ⟨nret_ib _ HR.out rfl rfl, rfl⟩
  · have f1 : decide ((t.size : Int) < 1) = false := by simp; omega
    have f1' : decide (t.size < 1) = false := decide_eq_false (by omega)
    have f1'' : decide (t.size = 0) = false := decide_eq_false (by omega)
    by_cases h2 : 15 < t.size
    · have f2 : decide (15 < (t.size : Int)) = true := by simp; omega
      have f2' : decide (15 < t.size) = true := by simpa using h2
      have hr := Lib.hid (numD_len t neg (.inr h2))
      clear h
      go_enter Tryz.func54, Tryz.ntmps54
      go_wp2_with (go_at_call 91; refine (HC.out _).mono ?_; rintro e w' ⟨rfl, rfl⟩)
      go_ret2
      exact ⟨nret_ib _ hr.out rfl rfl, rfl⟩
    · have f2 : decide (15 < (t.size : Int)) = false := by simp; omega
      have f2' : decide (15 < t.size) = false := by simpa using h2
      obtain ⟨hp, -, hz, h1⟩ : ∃ hp : 0 < t.size, t.size ≤ 15 ∧ (t[0].toNat : Int) = 48 ∧ (1 < t.size ∨ neg = true) := by rcases h with h | h; omega; exact h
      have f3 : ((t[0].toNat : Int) == 48) = true := by simpa using hz
      have hr := Lib.hid (numD_zero t neg hp (by omega) hz h1)
      by_cases h3 : 1 < t.size
      · have f4 : decide (1 < (t.size : Int)) = true := by simp; omega
        have f4' : decide (1 < t.size) = true := by simpa using h3
        clear h1 hz h
        go_enter Tryz.func54, Tryz.ntmps54
        go_wp2_with (go_at_call 91; refine (HC.out _).mono ?_; rintro e w' ⟨rfl, rfl⟩)
        go_ret2
        exact ⟨nret_ib _ hr.out rfl rfl, rfl⟩
      · have f4 : decide (1 < (t.size : Int)) = false := by simp; omega
        have f4' : decide (1 < t.size) = false := by simpa using h3
        obtain rfl : neg = true := by rcases h1 with h | h; exact absurd h h3; exact h
        clear h1 hz h
        go_enter Tryz.func54, Tryz.ntmps54
        go_wp2_with (go_at_call 91; refine (HC.out _).mono ?_; rintro e w' ⟨rfl, rfl⟩)
        go_ret2
        exact ⟨nret_ib _ hr.out rfl rfl, rfl⟩
set_option maxHeartbeats 2000000 in
theorem number_loop (s t : ByteArray) (neg : Bool) (w : World) (hs : t.size ≤ 4294967280) (HC : Hid (∀ w, Calls Tryz.prog 91 #[.string s, .string ⟨#[45]⟩] w fun e w' => e = .returned (.tuple #[.string t, .bool neg]) ∧ w = w'))
    (hp : 0 < t.size) (hm : t.size ≤ 15) (h : ¬ ((t[0].toNat : Int) = 48 ∧ (1 < t.size ∨ neg = true))) :
    Calls Tryz.prog 54 #[.string s] w fun e w' => e = .returned (.tuple #[.int .i64 (numD t.data.toList neg).1, .bool (numD t.data.toList neg).2]) ∧ w = w' := by
  have f1 : decide ((t.size : Int) < 1) = false := by simp; omega
  have f1' : decide (t.size < 1) = false := decide_eq_false (by omega)
  have f1'' : decide (t.size = 0) = false := decide_eq_false (by omega)
  have f2 : decide (15 < (t.size : Int)) = false := by simp; omega
  have f2' : decide (15 < t.size) = false := by simp; omega
  have GOOD := Lib.hid (numD_good t neg hp hm h)
  have BAD := Lib.hid (numD_bad t neg)
  by_cases hz : (t[0].toNat : Int) = 48
  · have f3 : ((t[0].toNat : Int) == 48) = true := by simpa using hz
    have h1 : ¬ 1 < t.size := fun g => h ⟨hz, .inl g⟩
    have f4 : decide (1 < (t.size : Int)) = false := by simp; omega
    have f4' : decide (1 < t.size) = false := by simpa using h1
    obtain rfl : neg = false := by cases neg with
      | false => rfl
      | true => exact absurd ⟨hz, .inr rfl⟩ h
    clear h hz h1
    go_enter Tryz.func54, Tryz.ntmps54
    go_wp2_with (go_at_call 91; refine (HC.out _).mono ?_; rintro e w' ⟨rfl, rfl⟩)
    go_loop [6, 36] (NumRel t) (fun _ i => t.size - (intOf i).toNat)
    case atStart => exact ⟨0, Nat.zero_le _, rfl, rfl, (rfl : (t.data.toList.take 0).all isDig = true)⟩
    case round =>
      obtain ⟨k, hk, rfl, rfl, hd⟩ := hrel
      obtain ⟨v0, v1⟩ := valT_bd hd.out (by rw [List.length_take]; omega)
      by_cases hlt : k < t.size
      · have HS := Lib.hid (take_snoc t k hlt)
        go_wp2
        · go_ret2
          exact ⟨nret_ib _ (BAD.out k hlt (by unfold isDig; simp; omega)) rfl rfl, rfl⟩
        · go_round
          case rel =>
            refine ⟨k + 1, by omega, by go_num, ?_, ?_⟩
            · rw [HS.out, valT_snoc]
            · show (t.data.toList.take (k + 1)).all isDig = true
              rw [HS.out, List.all_append, hd.out]
              simp [isDig]; omega
          case measure => simp [intOf]; omega
        · go_ret2
          exact ⟨nret_ib _ (BAD.out k hlt (by unfold isDig; simp; omega)) rfl rfl, rfl⟩
      · have e : t.data.toList.take k = t.data.toList := List.take_of_length_le (by rw [len_data]; omega)
        have E := Lib.hid e
        have G := Lib.hid (GOOD.out (by rw [← e]; exact hd.out))
        clear e
        go_wp2
        go_ret2
        exact ⟨nret_ib _ G.out (by rw [E.out]; rfl) rfl, rfl⟩
  · have f3 : ((t[0].toNat : Int) == 48) = false := by simpa using hz
    clear h hz
    cases neg
    · skip
      go_enter Tryz.func54, Tryz.ntmps54
      go_wp2_with (go_at_call 91; refine (HC.out _).mono ?_; rintro e w' ⟨rfl, rfl⟩)
      go_loop [6, 36] (NumRel t) (fun _ i => t.size - (intOf i).toNat)
      case atStart => exact ⟨0, Nat.zero_le _, rfl, rfl, (rfl : (t.data.toList.take 0).all isDig = true)⟩
      case round =>
        obtain ⟨k, hk, rfl, rfl, hd⟩ := hrel
        obtain ⟨v0, v1⟩ := valT_bd hd.out (by rw [List.length_take]; omega)
        by_cases hlt : k < t.size
        · have HS := Lib.hid (take_snoc t k hlt)
          go_wp2
          · go_ret2
            exact ⟨nret_ib _ (BAD.out k hlt (by unfold isDig; simp; omega)) rfl rfl, rfl⟩
          · go_round
            case rel =>
              refine ⟨k + 1, by omega, by go_num, ?_, ?_⟩
              · rw [HS.out, valT_snoc]
              · show (t.data.toList.take (k + 1)).all isDig = true
                rw [HS.out, List.all_append, hd.out]
                simp [isDig]; omega
            case measure => simp [intOf]; omega
          · go_ret2
            exact ⟨nret_ib _ (BAD.out k hlt (by unfold isDig; simp; omega)) rfl rfl, rfl⟩
        · have e : t.data.toList.take k = t.data.toList := List.take_of_length_le (by rw [len_data]; omega)
          have E := Lib.hid e
          have G := Lib.hid (GOOD.out (by rw [← e]; exact hd.out))
          clear e
          go_wp2
          go_ret2
          exact ⟨nret_ib _ G.out (by rw [E.out]; rfl) rfl, rfl⟩
    · skip
      go_enter Tryz.func54, Tryz.ntmps54
      go_wp2_with (go_at_call 91; refine (HC.out _).mono ?_; rintro e w' ⟨rfl, rfl⟩)
      go_loop [6, 36] (NumRel t) (fun _ i => t.size - (intOf i).toNat)
      case atStart => exact ⟨0, Nat.zero_le _, rfl, rfl, (rfl : (t.data.toList.take 0).all isDig = true)⟩
      case round =>
        obtain ⟨k, hk, rfl, rfl, hd⟩ := hrel
        obtain ⟨v0, v1⟩ := valT_bd hd.out (by rw [List.length_take]; omega)
        by_cases hlt : k < t.size
        · have HS := Lib.hid (take_snoc t k hlt)
          go_wp2
          · go_ret2
            exact ⟨nret_ib _ (BAD.out k hlt (by unfold isDig; simp; omega)) rfl rfl, rfl⟩
          · go_round
            case rel =>
              refine ⟨k + 1, by omega, by go_num, ?_, ?_⟩
              · rw [HS.out, valT_snoc]
              · show (t.data.toList.take (k + 1)).all isDig = true
                rw [HS.out, List.all_append, hd.out]
                simp [isDig]; omega
            case measure => simp [intOf]; omega
          · go_ret2
            exact ⟨nret_ib _ (BAD.out k hlt (by unfold isDig; simp; omega)) rfl rfl, rfl⟩
        · have e : t.data.toList.take k = t.data.toList := List.take_of_length_le (by rw [len_data]; omega)
          have E := Lib.hid e
          have G := Lib.hid (GOOD.out (by rw [← e]; exact hd.out))
          clear e
          go_wp2
          go_ret2
          exact ⟨nret_ib _ G.out (by rw [E.out]; rfl) rfl, rfl⟩
theorem trim_size (s : ByteArray) : (Lib.trimPrefix s.data.toList [45]).length ≤ s.size := by
  unfold Lib.trimPrefix
  rw [← len_data]
  split
  · rw [List.length_drop]; omega
  · exact Nat.le_refl _
/-- the number of a field -/
def numF (s : List UInt8) : Int × Bool := numD (Lib.trimPrefix s [45]) (Lib.hasPrefix s [45])
theorem number_any (s : ByteArray) (w : World) (hs : s.size ≤ 4294967280) :
    Calls Tryz.prog 54 #[.string s] w fun e w' => e = .returned (.tuple #[.int .i64 (numF s.data.toList).1, .bool (numF s.data.toList).2]) ∧ w = w' := by
  obtain ⟨t, ht⟩ : ∃ t : ByteArray, Lib.trimPrefix s.data.toList [45] = t.data.toList := ⟨⟨(Lib.trimPrefix s.data.toList [45]).toArray⟩, rfl⟩
  have hsz : t.size ≤ 4294967280 := by have := trim_size s; rw [ht, len_data] at this; omega
  have HC := Lib.hid (fun w => cutp_any s t (Lib.hasPrefix s.data.toList [45]) w ht rfl)
  unfold numF
  rw [ht]
  by_cases h : (t.size < 1 ∨ 15 < t.size) ∨ ∃ hp : 0 < t.size, t.size ≤ 15 ∧ (t[0].toNat : Int) = 48 ∧ (1 < t.size ∨ Lib.hasPrefix s.data.toList [45] = true)
  · exact number_short s t _ w hsz HC h
  · have hp : 0 < t.size := by rcases Nat.eq_zero_or_pos t.size with h0 | h0; exact absurd (.inl (.inl (by omega))) h; exact h0
    have hm : t.size ≤ 15 := Nat.le_of_not_lt fun g => h (.inl (.inr g))
    exact number_loop s t _ w hsz HC hp hm (fun g => h (.inr ⟨hp, hm, g⟩))
set_option maxHeartbeats 2000000 in
theorem refnum_true (s t : ByteArray) (w : World) (hs : s.size ≤ 4294967280) (hp0 : 0 < s.size) (h45 : (s[0].toNat : Int) = 45) (ht : s.extract 1 s.size = t) :
    Calls Tryz.prog 57 #[.string s] w fun e w' => e = .returned (.tuple #[.int .i64 (numD t.data.toList true).1, .bool (numD t.data.toList true).2]) ∧ w = w' := by
  have hts : t.size + 1 = s.size := by rw [← ht, ByteArray.size_extract]; omega
  have e0 : decide (0 < s.size) = true := by simpa using hp0
  have e0' : decide (0 < (s.size : Int)) = true := by simp; omega
  have e1 : ((s[0].toNat : Int) == 45) = true := by simpa using h45
  have e2 : decide (t.size < s.size) = true := decide_eq_true (by omega)
  have e2' : decide ((t.size : Int) < (s.size : Int)) = true := decide_eq_true (by omega)
  have e3 : decide (1 < s.size) = decide (0 < t.size) := by rw [decide_eq_decide]; omega
  clear h45
  have LEN := Lib.hid (numD_len t true)
  have ZERO := Lib.hid (numD_zero t true)
  have BAD := Lib.hid (numD_bad t true)
  have GOODA := Lib.hid (numD_good t true)
  by_cases h0 : t.size < 1
  · have f1 : decide ((t.size : Int) < 1) = true := decide_eq_true (by omega)
    have f1' : decide (t.size < 1) = true := decide_eq_true (by omega)
    have f1'' : decide (t.size = 0) = true := decide_eq_true (by omega)
    have hr := Lib.hid (LEN.out (.inl h0))
    have te : t = ⟨#[]⟩ := by
      have : t.data.toList = [] := List.eq_nil_of_length_eq_zero (by rw [len_data]; omega)
      rw [← ba_eta t, this]
    have HR := Lib.hid (show numD t.data.toList true = (0, false) from hr.out)
    rw [te] at ht
    clear hr e2 e2' e3 f1 f1' f1'' h0
    go_enter Tryz.func57, Tryz.ntmps57
    go_wp2
    go_ret2
    exact ⟨nret_ib _ (by first | exact HR.out | decide) rfl rfl, rfl⟩
  · have f1 : decide ((t.size : Int) < 1) = false := decide_eq_false (by omega)
    have f1' : decide (t.size < 1) = false := decide_eq_false (by omega)
    have f1'' : decide (t.size = 0) = false := decide_eq_false (by omega)
    by_cases h2 : 15 < t.size
    · have f2 : decide (15 < (t.size : Int)) = true := decide_eq_true (by omega)
      have f2' : decide (15 < t.size) = true := decide_eq_true (by omega)
      have hr := Lib.hid (LEN.out (.inr h2))
      go_enter Tryz.func57, Tryz.ntmps57
      go_wp2
      go_ret2
      exact ⟨nret_ib _ hr.out rfl rfl, rfl⟩
    · have f2 : decide (15 < (t.size : Int)) = false := decide_eq_false (by omega)
      have f2' : decide (15 < t.size) = false := decide_eq_false (by omega)
      by_cases hz : (t[0]'(by omega)).toNat = (48 : Int)
      · have f3 : (((t[0]'(by omega)).toNat : Int) == 48) = true := by simpa using hz
        have f4 : decide (1 < s.size) = true := decide_eq_true (by omega)
        have f4' : decide (1 < (s.size : Int)) = true := decide_eq_true (by omega)
        have hr := Lib.hid (ZERO.out (by omega) (by omega) hz (.inr rfl))
        clear hz e3
        go_enter Tryz.func57, Tryz.ntmps57
        go_wp2
        go_ret2
        exact ⟨nret_ib _ hr.out rfl rfl, rfl⟩
      · have f3 : (((t[0]'(by omega)).toNat : Int) == 48) = false := by simpa using hz
        have GOOD := Lib.hid (GOODA.out (by omega) (by omega) (fun g => hz g.1))
        clear hz e3
        go_enter Tryz.func57, Tryz.ntmps57
        go_wp2
        go_loop [5, 6] (NumRel t) (fun _ i => t.size - (intOf i).toNat)
        case atStart => exact ⟨0, Nat.zero_le _, rfl, rfl, (rfl : (t.data.toList.take 0).all isDig = true)⟩
        case round =>
          obtain ⟨k, hk, rfl, rfl, hd⟩ := hrel
          obtain ⟨v0, v1⟩ := valT_bd hd.out (by rw [List.length_take]; omega)
          by_cases hlt : k < t.size
          · have HS := Lib.hid (take_snoc t k hlt)
            go_wp2
            · go_ret2
              exact ⟨nret_ib _ (BAD.out k hlt (by unfold isDig; simp; omega)) rfl rfl, rfl⟩
            · go_round
              case rel =>
                refine ⟨k + 1, by omega, by go_num, ?_, ?_⟩
                · rw [HS.out, valT_snoc]
                · show (t.data.toList.take (k + 1)).all isDig = true
                  rw [HS.out, List.all_append, hd.out]
                  simp [isDig]; omega
              case measure => simp [intOf]; omega
            · go_ret2
              exact ⟨nret_ib _ (BAD.out k hlt (by unfold isDig; simp; omega)) rfl rfl, rfl⟩
          · have e : t.data.toList.take k = t.data.toList := List.take_of_length_le (by rw [len_data]; omega)
            have E := Lib.hid e
            have G := Lib.hid (GOOD.out (by rw [← e]; exact hd.out))
            clear e
            go_wp2
            go_ret2
            exact ⟨nret_ib _ G.out (by rw [E.out]; rfl) rfl, rfl⟩
set_option maxHeartbeats 2000000 in
theorem refnum_false (t : ByteArray) (w : World) (hs : t.size ≤ 4294967280) (hno : ¬ ∃ hp0 : 0 < t.size, (t[0].toNat : Int) = 45) :
    Calls Tryz.prog 57 #[.string t] w fun e w' => e = .returned (.tuple #[.int .i64 (numD t.data.toList false).1, .bool (numD t.data.toList false).2]) ∧ w = w' := by
  have LEN := Lib.hid (numD_len t false)
  have ZERO := Lib.hid (numD_zero t false)
  have BAD := Lib.hid (numD_bad t false)
  have GOODA := Lib.hid (numD_good t false)
  by_cases h0 : t.size < 1
  · have f1 : decide ((t.size : Int) < 1) = true := decide_eq_true (by omega)
    have f1' : decide (t.size < 1) = true := decide_eq_true (by omega)
    have f1'' : decide (t.size = 0) = true := decide_eq_true (by omega)
    have hr := Lib.hid (LEN.out (.inl h0))
    have e0 : decide (0 < t.size) = false := decide_eq_false (by omega)
    have e0' : decide (0 < (t.size : Int)) = false := decide_eq_false (by omega)
    obtain rfl : t = ⟨#[]⟩ := by
      have : t.data.toList = [] := List.eq_nil_of_length_eq_zero (by rw [len_data]; omega)
      rw [← ba_eta t, this]
    have HR := Lib.hid (show numD (⟨#[]⟩ : ByteArray).data.toList false = (0, false) from hr.out)
    clear hr e0 e0' f1 f1' f1'' h0 hno
    go_enter Tryz.func57, Tryz.ntmps57
    go_wp2
    go_ret2
    exact ⟨nret_ib _ (by first | exact HR.out | decide) rfl rfl, rfl⟩
  · have f1 : decide ((t.size : Int) < 1) = false := decide_eq_false (by omega)
    have f1' : decide (t.size < 1) = false := decide_eq_false (by omega)
    have f1'' : decide (t.size = 0) = false := decide_eq_false (by omega)
    have e0 : decide (0 < t.size) = true := decide_eq_true (by omega)
    have e0' : decide (0 < (t.size : Int)) = true := decide_eq_true (by omega)
    have e1 : ((t[0].toNat : Int) == 45) = false := by have : ¬ (t[0].toNat : Int) = 45 := fun g => hno ⟨by omega, g⟩; simpa using this
    by_cases h2 : 15 < t.size
    · have f2 : decide (15 < (t.size : Int)) = true := decide_eq_true (by omega)
      have f2' : decide (15 < t.size) = true := decide_eq_true (by omega)
      have hr := Lib.hid (LEN.out (.inr h2))
      go_enter Tryz.func57, Tryz.ntmps57
      go_wp2
      go_ret2
      exact ⟨nret_ib _ hr.out rfl rfl, rfl⟩
    · have f2 : decide (15 < (t.size : Int)) = false := decide_eq_false (by omega)
      have f2' : decide (15 < t.size) = false := decide_eq_false (by omega)
      by_cases hz : (t[0]'(by omega)).toNat = (48 : Int)
      · have f3 : (((t[0]'(by omega)).toNat : Int) == 48) = true := by simpa using hz
        by_cases h3 : 1 < t.size
        · have f4 : decide (1 < t.size) = true := decide_eq_true (by omega)
          have f4' : decide (1 < (t.size : Int)) = true := decide_eq_true (by omega)
          have hr := Lib.hid (ZERO.out (by omega) (by omega) hz (.inl h3))
          clear hz hno
          go_enter Tryz.func57, Tryz.ntmps57
          go_wp2
          go_ret2
          exact ⟨nret_ib _ hr.out rfl rfl, rfl⟩
        · have f4 : decide (1 < t.size) = false := decide_eq_false (by omega)
          have f4' : decide (1 < (t.size : Int)) = false := decide_eq_false (by omega)
          have GOOD := Lib.hid (GOODA.out (by omega) (by omega) (by rintro ⟨_, g | g⟩; exact h3 g; cases g))
          clear hz hno
          go_enter Tryz.func57, Tryz.ntmps57
          go_wp2
          go_loop [5, 6] (NumRel t) (fun _ i => t.size - (intOf i).toNat)
          case atStart => exact ⟨0, Nat.zero_le _, rfl, rfl, (rfl : (t.data.toList.take 0).all isDig = true)⟩
          case round =>
            obtain ⟨k, hk, rfl, rfl, hd⟩ := hrel
            obtain ⟨v0, v1⟩ := valT_bd hd.out (by rw [List.length_take]; omega)
            by_cases hlt : k < t.size
            · have HS := Lib.hid (take_snoc t k hlt)
              go_wp2
              · go_ret2
                exact ⟨nret_ib _ (BAD.out k hlt (by unfold isDig; simp; omega)) rfl rfl, rfl⟩
              · go_round
                case rel =>
                  refine ⟨k + 1, by omega, by go_num, ?_, ?_⟩
                  · rw [HS.out, valT_snoc]
                  · show (t.data.toList.take (k + 1)).all isDig = true
                    rw [HS.out, List.all_append, hd.out]
                    simp [isDig]; omega
                case measure => simp [intOf]; omega
              · go_ret2
                exact ⟨nret_ib _ (BAD.out k hlt (by unfold isDig; simp; omega)) rfl rfl, rfl⟩
            · have e : t.data.toList.take k = t.data.toList := List.take_of_length_le (by rw [len_data]; omega)
              have E := Lib.hid e
              have G := Lib.hid (GOOD.out (by rw [← e]; exact hd.out))
              clear e
              go_wp2
              go_ret2
              exact ⟨nret_ib _ G.out (by rw [E.out]; rfl) rfl, rfl⟩
      · have f3 : (((t[0]'(by omega)).toNat : Int) == 48) = false := by simpa using hz
        have GOOD := Lib.hid (GOODA.out (by omega) (by omega) (fun g => hz g.1))
        clear hz hno
        go_enter Tryz.func57, Tryz.ntmps57
        go_wp2
        go_loop [5, 6] (NumRel t) (fun _ i => t.size - (intOf i).toNat)
        case atStart => exact ⟨0, Nat.zero_le _, rfl, rfl, (rfl : (t.data.toList.take 0).all isDig = true)⟩
        case round =>
          obtain ⟨k, hk, rfl, rfl, hd⟩ := hrel
          obtain ⟨v0, v1⟩ := valT_bd hd.out (by rw [List.length_take]; omega)
          by_cases hlt : k < t.size
          · have HS := Lib.hid (take_snoc t k hlt)
            go_wp2
            · go_ret2
              exact ⟨nret_ib _ (BAD.out k hlt (by unfold isDig; simp; omega)) rfl rfl, rfl⟩
            · go_round
              case rel =>
                refine ⟨k + 1, by omega, by go_num, ?_, ?_⟩
                · rw [HS.out, valT_snoc]
                · show (t.data.toList.take (k + 1)).all isDig = true
                  rw [HS.out, List.all_append, hd.out]
                  simp [isDig]; omega
              case measure => simp [intOf]; omega
            · go_ret2
              exact ⟨nret_ib _ (BAD.out k hlt (by unfold isDig; simp; omega)) rfl rfl, rfl⟩
          · have e : t.data.toList.take k = t.data.toList := List.take_of_length_le (by rw [len_data]; omega)
            have E := Lib.hid e
            have G := Lib.hid (GOOD.out (by rw [← e]; exact hd.out))
            clear e
            go_wp2
            go_ret2
            exact ⟨nret_ib _ G.out (by rw [E.out]; rfl) rfl, rfl⟩
theorem drop1 (s : ByteArray) : (s.extract 1 s.size).data.toList = s.data.toList.drop 1 := by
  rw [ByteArray.data_extract, Array.toList_extract]
  simp [List.extract, List.take_of_length_le]
theorem pre_minus (r : List UInt8) : Lib.hasPrefix (45 :: r) [45] = true ∧ Lib.trimPrefix (45 :: r) [45] = r := by
  unfold Lib.trimPrefix Lib.hasPrefix
  simp
theorem pre_none {l : List UInt8} (h : ∀ r, l ≠ 45 :: r) : Lib.hasPrefix l [45] = false ∧ Lib.trimPrefix l [45] = l := by
  have e : Lib.hasPrefix l [45] = false := by
    unfold Lib.hasPrefix
    cases l with
    | nil => rfl
    | cons c r =>
      by_cases hc : c = 45
      · subst hc; exact absurd rfl (h r)
      · simp [List.isPrefixOf]; exact fun e => absurd e.symm hc
  refine ⟨e, ?_⟩
  unfold Lib.trimPrefix
  rw [e]; rfl
theorem number_ref (s : ByteArray) (w : World) (hs : s.size ≤ 4294967280) :
    Calls Tryz.prog 57 #[.string s] w fun e w' => e = .returned (.tuple #[.int .i64 (numF s.data.toList).1, .bool (numF s.data.toList).2]) ∧ w = w' := by
  by_cases h : ∃ hp0 : 0 < s.size, (s[0].toNat : Int) = 45
  · obtain ⟨hp0, h45⟩ := h
    have hc : s.data.toList = 45 :: s.data.toList.drop 1 := by
      have e : s.data.toList = s.data.toList.take (0 + 1) ++ s.data.toList.drop 1 := (List.take_append_drop 1 _).symm
      conv => lhs; rw [e, take_snoc s 0 hp0]
      have : s[0] = 45 := UInt8.toNat_inj.1 (by show s[0].toNat = 45; omega)
      rw [this]; rfl
    have hn : numF s.data.toList = numD (s.extract 1 s.size).data.toList true := by
      unfold numF
      rw [drop1, hc, (pre_minus _).1, (pre_minus _).2]
      rfl
    rw [hn]
    exact refnum_true s _ w hs hp0 h45 rfl
  · have hn : numF s.data.toList = numD s.data.toList false := by
      have := pre_none (l := s.data.toList) (fun r e => h (by
        have hl : 0 < s.size := by rw [← len_data, e]; simp
        refine ⟨hl, ?_⟩
        have := head_of s hl
        rw [e] at this
        rw [← this]; rfl))
      unfold numF
      rw [this.1, this.2]
    rw [hn]
    exact refnum_false s w hs h
end Go.Proofs.YtajmjkliblippaaGreatDoor.Ty
namespace Go.Proofs.YtajmjkliblippaaGreatDoor.Ty
set_option linter.unusedVariables false
def fstep (st : List (List UInt8) × List UInt8) (c : UInt8) : List (List UInt8) × List UInt8 := if c = 32 then (st.1 ++ [st.2], []) else (st.1, st.2 ++ [c])
def fpart (l : List UInt8) : List (List UInt8) × List UInt8 := l.foldl fstep ([], [])
def fieldsL (l : List UInt8) : List (List UInt8) := (fpart l).1 ++ [(fpart l).2]
theorem fpart_snoc (l : List UInt8) (c : UInt8) : fpart (l ++ [c]) = fstep (fpart l) c := by
  unfold fpart; rw [List.foldl_append]; rfl
theorem ffold_pre (l : List UInt8) : ∀ (p : List (List UInt8)) (q : List UInt8), l.foldl fstep (p, q) = (p ++ (l.foldl fstep ([], q)).1, (l.foldl fstep ([], q)).2) := by
  induction l with
  | nil => intro p q; simp
  | cons c r ih =>
    intro p q
    simp only [List.foldl_cons]
    by_cases h : c = 32
    · have e1 : fstep (p, q) c = (p ++ [q], []) := by unfold fstep; rw [if_pos h]
      have e2 : fstep ([], q) c = ([q], []) := by unfold fstep; rw [if_pos h]; rfl
      rw [e1, e2, ih (p ++ [q]) [], ih [q] []]
      simp
    · have e1 : fstep (p, q) c = (p, q ++ [c]) := by unfold fstep; rw [if_neg h]
      have e2 : fstep ([], q) c = ([], q ++ [c]) := by unfold fstep; rw [if_neg h]
      rw [e1, e2, ih p (q ++ [c])]
theorem ffold_none (l : List UInt8) (h : 32 ∉ l) : ∀ q : List UInt8, l.foldl fstep ([], q) = ([], q ++ l) := by
  induction l with
  | nil => intro q; simp
  | cons c r ih =>
    intro q
    simp only [List.mem_cons, not_or] at h
    rw [List.foldl_cons]
    have e2 : fstep ([], q) c = ([], q ++ [c]) := by unfold fstep; rw [if_neg (fun e => h.1 e.symm)]
    rw [e2, ih h.2]
    simp
theorem fields_none {l : List UInt8} (h : 32 ∉ l) : fieldsL l = [l] := by
  unfold fieldsL fpart; rw [ffold_none l h]; rfl
theorem fields_cut {a b : List UInt8} (h : 32 ∉ a) : fieldsL (a ++ 32 :: b) = a :: fieldsL b := by
  unfold fieldsL fpart
  rw [List.foldl_append, ffold_none a h, List.foldl_cons]
  have e : fstep ([], [] ++ a) 32 = ([a], []) := by unfold fstep; rw [if_pos rfl]; rfl
  rw [e, ffold_pre b [a] []]
  simp
theorem idx_at (b : List UInt8) : ∀ a : List UInt8, 32 ∉ a → Lib.index (a ++ 32 :: b) [32] = (a.length : Int)
  | [], _ => by rw [List.nil_append, Lib.index]; simp [List.isPrefixOf]
  | c :: r, h => by
    simp only [List.mem_cons, not_or] at h
    have hp : ([32] : List UInt8).isPrefixOf (c :: (r ++ 32 :: b)) = false := by simp [List.isPrefixOf]; exact h.1
    have ih := idx_at b r h.2
    have hix : Lib.index (c :: (r ++ 32 :: b)) [32] = if Lib.index (r ++ 32 :: b) [32] == -1 then -1 else Lib.index (r ++ 32 :: b) [32] + 1 := by rw [Lib.index, hp]; simp
    rw [List.cons_append, hix, ih, if_neg (by simp)]
    simp
theorem split_fields : ∀ (k : Nat) (l : List UInt8), l.count 32 = k → Lib.splitK [32] 0 k l = fieldsL l
  | 0, l, h => by
    rw [fields_none (List.count_eq_zero.1 h)]; rfl
  | k + 1, l, h => by
    have hm : (32 : UInt8) ∈ l := List.count_pos_iff.1 (by omega)
    obtain ⟨a, b, rfl, ha⟩ := List.eq_append_cons_of_mem hm
    have hc : b.count 32 = k := by
      rw [List.count_append, List.count_eq_zero.2 ha, List.count_cons_self] at h; omega
    rw [fields_cut ha, Lib.splitK, idx_at b a ha, if_neg (by simp)]
    rw [show ((a.length : Int).toNat + 0) = a.length by omega, show ((a.length : Int).toNat + ([32] : List UInt8).length) = a.length + 1 by simp]
    rw [List.take_left, ← split_fields k b hc]
    congr 2
    rw [List.drop_append]
    simp
/-- the pieces of Split are the fields -/
theorem splitB_fields (s : ByteArray) : (Lib.splitB ⟨#[32]⟩ 0 (Lib.countB s ⟨#[32]⟩) s).map (·.data.toList) = fieldsL s.data.toList ∧ (Lib.splitB ⟨#[32]⟩ 0 (Lib.countB s ⟨#[32]⟩) s).length = Lib.countB s ⟨#[32]⟩ + 1 := by
  refine ⟨?_, Lib.splitB_all _ (by decide) 0 _ s rfl⟩
  rw [Lib.splitB_data]
  have e : Lib.countB s ⟨#[32]⟩ = s.data.toList.count 32 := Lib.count_one 32 s.data.toList
  rw [e]
  exact split_fields _ _ rfl
end Go.Proofs.YtajmjkliblippaaGreatDoor.Ty
namespace Go.Proofs.YtajmjkliblippaaGreatDoor.Ty
set_option linter.unusedVariables false
open Go.RowKit Tx
def strV (l : List UInt8) : Value := .string ⟨l.toArray⟩
/-- a slice of the call's own that holds these strings -/
def OS (B : Nat) (w : World) (v : Value) (F : List (List UInt8)) : Prop := w.ownsRow B 9 1 v F.length (F.map strV)
theorem infoStr : (Tryz.prog.info? 9).map (fun i => (i.zero, i.size, i.bytes)) = some (some (.string ByteArray.empty), 1, 16) := by kernel_rfl
theorem wpList_os {ops : Array Oper} {rest : List Oper} {o : Oper} {a : Act} {Q : Exit → Act → World → Prop} (hgd : o.guard = none) (s x : Operand)
    (ho : o.op = .call { callee := .builtin .append, args := #[s, x], argTypes := #[83, 83] })
    (B : Nat) (v : Value) (F : List (List UInt8)) (hs : a.eval s = v) (w0 : World) (h : OS B w0 v F) (T : TypeId) (t : ByteArray) (c : Nat)
    (hx : a.eval x = .slice (some ⟨w0.heap.size, 0, none⟩) 1 c) (hl : F.length ≤ 100000) (hB : B ≤ w0.heap.size)
    (H : ∀ v' w', OS B w' v' (F ++ [t.data.toList]) → Below B w0 w' → wpList Tryz.prog ops Q rest (a.put o.dst v') w') : wpList Tryz.prog ops Q (o :: rest) a (w0.alloc (.cells #[.string t] T)) := by
  obtain ⟨i0, hi, hz0, hz1, hz2⟩ := info_parts infoStr
  refine wpList_append_own _ hgd s x 83 ho B 9 i0 (.string ByteArray.empty) 1 16 Tryz.underlying83 hi hz0 hz1 hz2 rfl (by decide) v F.length (F.map strV) hs (World.ownsRow.alloc h _) ⟨w0.heap.size, 0, none⟩ 1 c [.string t] hx rfl ?_ ?_ (by unfold maxLen; omega) (by omega) (by simp; omega) ?_
  · intro j u hu
    have hj : j = 0 := by
      cases j with
      | zero => rfl
      | succ j => simp at hu
    subst hj
    have hadd : (⟨w0.heap.size, 0, none⟩ : Addr).add 0 = ⟨w0.heap.size, 0, none⟩ := by unfold Addr.add; split <;> simp_all
    rw [hadd, World.cell?_alloc_at _ _ _ _ (by rfl)]
    simpa using hu
  · intro u hu
    simp only [List.mem_cons, List.not_mem_nil, or_false] at hu
    subst hu; rfl
  · intro v' w' ho' hg _
    refine H v' w' ?_ ?_
    · unfold OS
      rw [List.length_append, List.map_append]
      have e : [t.data.toList].map strV = [Value.string t] := by simp [strV]
      rw [e]
      exact ho'
    · refine (((Below.refl B w0).alloc hB (.cells #[.string t] T))).grown hg (by simp; omega) ?_
      intro q hq
      exact (World.ownsRow.lt h q hq).1
theorem ext_mid (s : ByteArray) (f k : Nat) (h1 : f ≤ k) (h2 : k < s.size) : (s.extract f (k + 1)).data.toList = (s.extract f k).data.toList ++ [s[k]] := by
  rw [ByteArray.data_extract, ByteArray.data_extract, Array.toList_extract, Array.toList_extract]
  simp only [List.extract]
  have h3 : k - f < (s.data.toList.drop f).length := by rw [List.length_drop, len_data]; omega
  rw [show k + 1 - f = (k - f) + 1 by omega, List.take_succ_eq_append_getElem h3, List.getElem_drop]
  congr 2
  simp [show f + (k - f) = k by omega]
  rfl
theorem ext_nil (s : ByteArray) (f : Nat) : (s.extract f f).data.toList = [] := by
  rw [ByteArray.data_extract, Array.toList_extract]
  simp [List.extract]
/-- what holds at the head of a round -/
def FlR (s : ByteArray) (w1 : World) (s3 s4 s5 : Value) (w' : World) : Prop :=
  (∃ k f : Nat, k ≤ s.size ∧ f ≤ k ∧ s5 = .int .i64 k ∧ s4 = .int .i64 f ∧ OS w1.heap.size w' s3 (fpart (s.data.toList.take k)).1 ∧ Hid ((s.extract f k).data.toList = (fpart (s.data.toList.take k)).2) ∧ (fpart (s.data.toList.take k)).1.length ≤ k ∧ Below w1.heap.size w1 w') ∨
  (s5 = .int .i64 ((s.size : Int) + 1) ∧ OS w1.heap.size w' s3 (fieldsL s.data.toList) ∧ Below w1.heap.size w1 w')
def RetOS (F : List (List UInt8)) (w : World) (e : Ending) (w' : World) : Prop := ∃ v, e = .returned v ∧ OS w.heap.size w' v F ∧ Below w.heap.size w w'
theorem fpart_blank (s : ByteArray) (k : Nat) (h : k < s.size) (hc : (s[k].toNat : Int) = 32) : fpart (s.data.toList.take (k + 1)) = ((fpart (s.data.toList.take k)).1 ++ [(fpart (s.data.toList.take k)).2], []) := by
  rw [take_snoc s k h, fpart_snoc]
  unfold fstep
  rw [if_pos (UInt8.toNat_inj.1 (by show s[k].toNat = 32; omega))]
theorem fpart_other (s : ByteArray) (k : Nat) (h : k < s.size) (hc : ¬ (s[k].toNat : Int) = 32) : fpart (s.data.toList.take (k + 1)) = ((fpart (s.data.toList.take k)).1, (fpart (s.data.toList.take k)).2 ++ [s[k]]) := by
  rw [take_snoc s k h, fpart_snoc]
  unfold fstep
  rw [if_neg (fun e => hc (by rw [e]; rfl))]
set_option maxHeartbeats 2000000 in
set_option maxRecDepth 100000 in
theorem fields_ref (s : ByteArray) (w : World) (hs : s.size ≤ 1000) :
    Calls Tryz.prog 56 #[.string s] w (RetOS (fieldsL s.data.toList) w) := by
  have BL := Lib.hid (fpart_blank s)
  have OT := Lib.hid (fpart_other s)
  have XM := Lib.hid (ext_mid s)
  go_enter Tryz.func56, Tryz.ntmps56
  go_wp2
  go_loopw [3, 4, 5] (FlR s w) (fun _ _ i _ => s.size + 2 - (intOf i).toNat)
  case atStart => exact .inl ⟨0, 0, Nat.zero_le _, Nat.le_refl _, rfl, rfl, World.ownsRow_lit w #[] 0 (Nat.le_refl _) (by decide) rfl, ext_nil s 0, Nat.le_refl _, (Below.refl _ _).alloc (Nat.le_refl _) _⟩
  case round =>
    rcases hrel with ⟨k, f, hk, hf, rfl, rfl, hos, hx, hlen, hbw⟩ | ⟨rfl, hos, hbw⟩
    · have HB := Lib.hid hbw
      have HO := Lib.hid hos
      have hz : w.heap.size ≤ wr.heap.size := hbw.size
      clear hbw hos
      by_cases hlt : k < s.size
      · have f0 : ((k : Int) == (s.size : Int)) = false := by simp; omega
        by_cases hc : (s[k].toNat : Int) = 32
        · have f1 : ((s[k].toNat : Int) == 32) = true := by simpa using hc
          have HP := Lib.hid (BL.out k hlt hc)
          clear hc
          go_wp2_with (at_builtin; refine Tx.Halt.mk ?_)
          unfold Tx.Halt
          refine wpList_os rfl _ _ rfl w.heap.size _ (fpart (s.data.toList.take k)).1 (by first | rfl | assumption) wr HO.out _ (s.extract f k) _ rfl (by omega) hz ?_
          intro v4 w4 ho4 hb4
          have HO4 := Lib.hid ho4
          have HB4 := Lib.hid (HB.out.trans hb4)
          clear ho4 hb4
          go_wp2
          go_roundw
          case rel =>
            refine .inl ⟨k + 1, k + 1, by omega, Nat.le_refl _, by go_num, by go_num, ?_, ?_, ?_, HB4.out⟩
            · rw [HP.out, ← hx.out]; exact HO4.out
            · show (s.extract (k + 1) (k + 1)).data.toList = _
              rw [HP.out]; exact ext_nil s (k + 1)
            · rw [HP.out]; simp; omega
          case measure => simp [intOf]; omega
        · have f1 : ((s[k].toNat : Int) == 32) = false := by simpa using hc
          have HP := Lib.hid (OT.out k hlt hc)
          clear hc
          go_wp2
          go_roundw
          case rel =>
            refine .inl ⟨k + 1, f, by omega, by omega, by go_num, rfl, ?_, ?_, ?_, HB.out⟩
            · rw [HP.out]; exact HO.out
            · show (s.extract f (k + 1)).data.toList = _
              rw [HP.out, XM.out f k hf hlt, hx.out]
            · rw [HP.out]; simp; omega
          case measure => simp [intOf]; omega
      · obtain rfl : k = s.size := by omega
        have f0 : ((s.size : Int) == (s.size : Int)) = true := by simp
        have e0 : s.data.toList.take s.size = s.data.toList := List.take_of_length_le (by rw [len_data]; exact Nat.le_refl _)
        rw [e0] at HO hx hlen
        clear e0
        go_wp2_with (at_builtin; refine Tx.Halt.mk ?_)
        unfold Tx.Halt
        refine wpList_os rfl _ _ rfl w.heap.size _ (fpart s.data.toList).1 (by first | rfl | assumption) wr HO.out _ (s.extract f s.size) _ rfl (by omega) hz ?_
        intro v4 w4 ho4 hb4
        have HO4 := Lib.hid ho4
        have HB4 := Lib.hid (HB.out.trans hb4)
        clear ho4 hb4
        go_wp2
        go_roundw
        case rel => exact .inr ⟨by go_num, by unfold fieldsL; rw [← hx.out]; exact HO4.out, HB4.out⟩
        case measure => simp [intOf]
    · have HB := Lib.hid hbw
      have HO := Lib.hid hos
      clear hbw hos
      go_wp2
      go_ret
      exact ⟨_, rfl, HO.out, HB.out⟩
end Go.Proofs.YtajmjkliblippaaGreatDoor.Ty
namespace Go.Proofs.YtajmjkliblippaaGreatDoor.Ty
set_option linter.unusedVariables false
theorem numD_bd (d : List UInt8) (neg : Bool) : -1000000000000000 ≤ (numD d neg).1 ∧ (numD d neg).1 ≤ 1000000000000000 := by
  unfold numD
  split
  · simp
  · split
    · simp
    · split
      · rename_i h1 h2 h3
        have := valT_bd h3 (by omega)
        simp only
        split <;> omega
      · simp
theorem numF_bd (f : List UInt8) : -1000000000000000 ≤ (numF f).1 ∧ (numF f).1 ≤ 1000000000000000 := numD_bd _ _
end Go.Proofs.YtajmjkliblippaaGreatDoor.Ty
namespace Go.Proofs.YtajmjkliblippaaGreatDoor.Ty
set_option linter.unusedVariables false
open Go.RowKit Tx
theorem split_any (s : ByteArray) (w : World) (hE : Env w) (hs : s.size ≤ 1000) (L : List ByteArray) (hL : Lib.splitB ⟨#[32]⟩ 0 (Lib.countB s ⟨#[32]⟩) s = L) :
    Calls Tryz.prog 53 #[.string s, .string ⟨#[32]⟩] w fun e w' => e = .returned (.slice (some ⟨w.heap.size, 0, none⟩) L.length L.length) ∧ w' = w.alloc (.cells (L.map Value.string).toArray 9) := by
  obtain ⟨m, hm⟩ := hE.len
  refine (Tryz.strings_Split s ⟨#[32]⟩ m w (by omega) hm (by decide)).mono fun e w' ⟨he, hw⟩ => ?_
  have hl := (splitB_fields s).2
  rw [hL] at hl hw
  rw [← hl] at he
  exact ⟨he, hw⟩
theorem fld_size (l : List UInt8) : ∀ f ∈ fieldsL l, f.length ≤ l.length := by
  have key : ∀ (l : List UInt8) (p : List (List UInt8)) (q : List UInt8) (N : Nat), (∀ f ∈ p, f.length ≤ N) → q.length + l.length ≤ N → (∀ f ∈ (l.foldl fstep (p, q)).1, f.length ≤ N) ∧ (l.foldl fstep (p, q)).2.length ≤ N := by
    intro l
    induction l with
    | nil => intro p q N h1 h2; exact ⟨h1, by simpa using h2⟩
    | cons c r ih =>
      intro p q N h1 h2
      rw [List.foldl_cons]
      rw [List.length_cons] at h2
      by_cases h : c = 32
      · have e1 : fstep (p, q) c = (p ++ [q], []) := by unfold fstep; rw [if_pos h]
        rw [e1]
        refine ih _ _ N (fun f hf => ?_) (by simp; omega)
        rw [List.mem_append] at hf
        rcases hf with hf | hf
        · exact h1 f hf
        · rw [List.mem_singleton] at hf; subst hf; omega
      · have e1 : fstep (p, q) c = (p, q ++ [c]) := by unfold fstep; rw [if_neg h]
        rw [e1]
        exact ih _ _ N h1 (by rw [List.length_append, List.length_cons, List.length_nil]; omega)
  obtain ⟨a, b⟩ := key l [] [] l.length (by simp) (by simp)
  intro f hf
  unfold fieldsL fpart at hf
  rw [List.mem_append] at hf
  rcases hf with hf | hf
  · exact a f hf
  · rw [List.mem_singleton] at hf; subst hf; exact b
end Go.Proofs.YtajmjkliblippaaGreatDoor.Ty
namespace Go.Proofs.YtajmjkliblippaaGreatDoor.Ty
set_option linter.unusedVariables false
open Go.RowKit Tx
theorem conv_at (w : World) (b : Nat) (k : Int) (h0 : 0 ≤ k) (h1 : k < 256) (hc : w.cell? ⟨b, 0, none⟩ = some (.int .u8 k)) :
    (convert 80 9 (.slice (some ⟨b, 0, none⟩) 1 1)).run Tryz.prog w = .ok (.string ⟨#[UInt8.ofNat k.toNat]⟩) w := by
  have := run_convert_bytes_back (P := Tryz.prog) w 80 9 5 ⟨b, 0, none⟩ 1 [UInt8.ofNat k.toNat] Tryz.underlying80 Tryz.underlying5 Tryz.underlying9 (fun j hj => by
    have hj : j = 0 := by simpa using hj
    subst hj
    have e : ((UInt8.ofNat k.toNat).toNat : Int) = k := by rw [UInt8.toNat_ofNat']; omega
    simp only [List.getElem_cons_zero]
    rw [e]
    exact hc)
  exact this
theorem conv_new (w : World) (k : Int) (h0 : 0 ≤ k) (h1 : k < 256) (t : TypeId) :
    (convert 80 9 (.slice (some ⟨w.heap.size, 0, none⟩) 1 1)).run Tryz.prog (w.alloc (.cells #[.int .u8 k] t)) = .ok (.string ⟨#[UInt8.ofNat k.toNat]⟩) (w.alloc (.cells #[.int .u8 k] t)) :=
  conv_at _ _ k h0 h1 (by rw [World.cell?_alloc_at _ _ _ _ (by simp)]; rfl)
def dg (n : Int) : UInt8 := UInt8.ofNat (48 + n % 10).toNat
theorem dec_small {n : Int} (h0 : 0 ≤ n) (h1 : n < 10) : Lib.decDigits n.toNat = [dg n] := by
  rw [Lib.decDigits_one (by omega)]; unfold dg; congr 2; omega
theorem dec_big {n : Int} (h : 10 ≤ n) : Lib.decDigits n.toNat = Lib.decDigits (n / 10).toNat ++ [dg n] := by
  rw [Lib.decDigits, dif_neg (by omega)]
  unfold dg
  rw [show n.toNat / 10 = (n / 10).toNat by omega, show 48 + n.toNat % 10 = (48 + n % 10).toNat by omega]
theorem dec_len {n : Int} (h0 : 0 ≤ n) (h1 : n ≤ 9223372036854775807) : (⟨(Lib.decDigits n.toNat).toArray⟩ : ByteArray).size ≤ 21 := by
  have := Lib.itoa_length_le n (by omega) h1
  unfold Lib.itoa at this
  rw [if_neg (by omega)] at this
  show (Lib.decDigits n.toNat).toArray.size ≤ 21
  simpa using this
/-- what holds at the head of a round: the number's digits are those of n, its last one struck, and s -/
def DecInv (N : Int) (n : Int) (l : List UInt8) : Prop := 0 ≤ n ∧ n ≤ N ∧ (10 ≤ n → Lib.decDigits N.toNat = Lib.decDigits (n / 10).toNat ++ l) ∧ (n < 10 → Lib.decDigits N.toNat = l)
theorem DecInv.start {N : Int} (h : 0 ≤ N) : DecInv N N [dg N] := ⟨h, Int.le_refl _, fun g => dec_big g, fun g => dec_small h g⟩
theorem DecInv.step {N n : Int} {l : List UInt8} (h : DecInv N n l) (g : 10 ≤ n) : DecInv N (n / 10) (dg (n / 10) :: l) := by
  obtain ⟨h0, h1, h2, h3⟩ := h
  refine ⟨by omega, by omega, fun g' => ?_, fun g' => ?_⟩
  · rw [h2 g, dec_big g']; simp
  · rw [h2 g, dec_small (by omega) g']; rfl
theorem DecInv.len {N n : Int} {l : List UInt8} (h : DecInv N n l) (hN : N ≤ 9223372036854775807) : l.length ≤ 21 := by
  have hl := dec_len (Int.le_trans h.1 h.2.1) hN
  change (Lib.decDigits N.toNat).length ≤ 21 at hl
  by_cases g : 10 ≤ n
  · rw [h.2.2.1 g, List.length_append] at hl; omega
  · rw [h.2.2.2 (by omega)] at hl; exact hl
def DecR (N : Int) (w : World) (s0 s2 : Value) (w' : World) : Prop := ∃ (n : Int) (a : ByteArray), s0 = .int .i64 n ∧ s2 = .string a ∧ Hid (DecInv N n a.data.toList) ∧ 0 ≤ n ∧ n ≤ 9223372036854775807 ∧ a.size ≤ 21 ∧ Below w.heap.size w w'
theorem dg_cons (n : Int) (a : ByteArray) : (⟨#[dg n]⟩ : ByteArray) ++ a = ⟨(dg n :: a.data.toList).toArray⟩ := by
  apply ByteArray.ext
  rw [ByteArray.data_append]
  apply Array.ext'
  simp
set_option maxHeartbeats 1000000 in
set_option maxRecDepth 100000 in
theorem decimal_nn (n : Int) (w : World) (h0 : 0 ≤ n) (h1 : n ≤ 9223372036854775807) :
    Calls Tryz.prog 55 #[.int .i64 n] w fun e w' => e = .returned (.string ⟨(Lib.decDigits n.toNat).toArray⟩) ∧ Below w.heap.size w w' := by
  have k1 : decide (n < 0) = false := by simp; omega
  have t3 : IntKind.i64.wrap (48 + n % 10) = 48 + n % 10 := by simp [IntKind.wrap, IntKind.bits, IntKind.signed]; omega
  have t4 : IntKind.u8.wrap (48 + n % 10) = 48 + n % 10 := by simp [IntKind.wrap, IntKind.bits, IntKind.signed]; omega
  have k3 : n.tmod 10 = n % 10 := Int.tmod_eq_emod_of_nonneg (by omega)
  have cv := fun w t => conv_new w (48 + n % 10) (by omega) (by omega) t
  have hst := Lib.hid (DecInv.start h0)
  go_enter Tryz.func55, Tryz.ntmps55
  go_wp2
  clear t3 t4 k3 cv
  go_loopw [0, 3] (DecR n w) (fun s0 _ _ => (intOf s0).toNat)
  case atStart => exact ⟨n, ⟨#[dg n]⟩, rfl, rfl, hst.out, h0, h1, (by show 1 ≤ 21; decide), (Below.refl _ _).alloc (Nat.le_refl _) _⟩
  case round =>
    obtain ⟨m, a, rfl, rfl, hi, m0, m1, ha, hbw⟩ := hrel
    by_cases hm : 10 ≤ m
    · have t0 : m.tdiv 10 = m / 10 := Int.tdiv_eq_ediv_of_nonneg (by omega)
      have t1 : IntKind.i64.wrap (m / 10) = m / 10 := by simp [IntKind.wrap, IntKind.bits, IntKind.signed]; omega
      have t3 : IntKind.i64.wrap (48 + m / 10 % 10) = 48 + m / 10 % 10 := by simp [IntKind.wrap, IntKind.bits, IntKind.signed]; omega
      have t4 : IntKind.u8.wrap (48 + m / 10 % 10) = 48 + m / 10 % 10 := by simp [IntKind.wrap, IntKind.bits, IntKind.signed]; omega
      have k3 : (m / 10).tmod 10 = m / 10 % 10 := Int.tmod_eq_emod_of_nonneg (by omega)
      have cv := fun w t => conv_new w (48 + m / 10 % 10) (by omega) (by omega) t
      have n1 : ¬ 9223372036854775807 < 1 + a.size := by omega
      have hs := Lib.hid (hi.out.step hm)
      have HB := Lib.hid hbw
      clear hbw
      go_wp2
      go_roundw
      case rel =>
        have e : (⟨#[dg (m / 10)]⟩ : ByteArray) ++ a = ⟨(dg (m / 10) :: a.data.toList).toArray⟩ := dg_cons _ _
        have hl := hs.out.len h1
        exact ⟨m / 10, (⟨#[dg (m / 10)]⟩ : ByteArray) ++ a, rfl, rfl, by rw [e]; exact hs.out, by omega, by omega, by rw [e]; show ((dg (m / 10) :: a.data.toList).toArray).size ≤ 21; simpa using hl, HB.out.alloc HB.out.size _⟩
      case measure => simp [intOf]; omega
    · have E := Lib.hid (hi.out.2.2.2 (by omega))
      have HB := Lib.hid hbw
      clear hbw
      go_wp2
      go_ret
      exact ⟨by rw [E.out]; rfl, HB.out⟩
set_option maxHeartbeats 1000000 in
set_option maxRecDepth 100000 in
theorem decimal_any (n : Int) (w : World) (h0 : -9223372036854775807 ≤ n) (h1 : n ≤ 9223372036854775807) :
    Calls Tryz.prog 55 #[.int .i64 n] w fun e w' => e = .returned (.string ⟨(Lib.itoa n).toArray⟩) ∧ Below w.heap.size w w' := by
  by_cases h : n < 0
  · obtain ⟨a, ha⟩ : ∃ a : ByteArray, (⟨(Lib.decDigits (-n).toNat).toArray⟩ : ByteArray) = a := ⟨_, rfl⟩
    have la := dec_len (n := -n) (by omega) (by omega)
    have IH := Lib.hid (fun w => decimal_nn (-n) w (by omega) (by omega))
    rw [ha] at la IH
    have E := Lib.hid (show (⟨(Lib.itoa n).toArray⟩ : ByteArray) = ⟨#[45]⟩ ++ a by
      rw [← ha]; unfold Lib.itoa; rw [if_pos h, show n.natAbs = (-n).toNat by omega]
      apply ByteArray.ext
      rw [ByteArray.data_append]
      apply Array.ext'
      simp)
    have k1 : decide (n < 0) = true := by simpa using h
    have n1 : ¬ 9223372036854775807 < 1 + a.size := by omega
    clear ha
    go_enter Tryz.func55, Tryz.ntmps55
    go_wp2_with fail
    refine (IH.out _).mono ?_
    rintro e w1 ⟨rfl, hb⟩
    go_wp2
    go_ret
    exact ⟨by rw [E.out]; rfl, hb⟩
  · have := decimal_nn n w (by omega) h1
    unfold Lib.itoa
    rw [if_neg h]
    exact this
end Go.Proofs.YtajmjkliblippaaGreatDoor.Ty
namespace Go.Proofs.YtajmjkliblippaaGreatDoor.Ty
set_option linter.unusedVariables false
open Go.RowKit Tx
/-- a slice of the call's own that holds these numbers -/
def OI (B : Nat) (w : World) (v : Value) (l : List Int) : Prop := w.ownsRow B 2 1 v l.length (l.map (Value.int .i64))
theorem infoI64 : (Tryz.prog.info? 2).map (fun i => (i.zero, i.size, i.bytes)) = some (some (.int .i64 0), 1, 8) := by kernel_rfl
theorem wpList_oi {ops : Array Oper} {rest : List Oper} {o : Oper} {a : Act} {Q : Exit → Act → World → Prop} (hgd : o.guard = none) (s x : Operand)
    (ho : o.op = .call { callee := .builtin .append, args := #[s, x], argTypes := #[87, 87] })
    (B : Nat) (v : Value) (l : List Int) (hs : a.eval s = v) (w0 : World) (h : OI B w0 v l) (T : TypeId) (t : Int) (c : Nat)
    (hx : a.eval x = .slice (some ⟨w0.heap.size, 0, none⟩) 1 c) (hl : l.length ≤ 100000) (hB : B ≤ w0.heap.size)
    (H : ∀ v' w', OI B w' v' (l ++ [t]) → Below B w0 w' → wpList Tryz.prog ops Q rest (a.put o.dst v') w') : wpList Tryz.prog ops Q (o :: rest) a (w0.alloc (.cells #[.int .i64 t] T)) := by
  obtain ⟨i0, hi, hz0, hz1, hz2⟩ := info_parts infoI64
  refine wpList_append_own _ hgd s x 87 ho B 2 i0 (.int .i64 0) 1 8 Tryz.underlying87 hi hz0 hz1 hz2 rfl (by decide) v l.length (l.map (Value.int .i64)) hs (World.ownsRow.alloc h _) ⟨w0.heap.size, 0, none⟩ 1 c [.int .i64 t] hx rfl ?_ ?_ (by unfold maxLen; omega) (by omega) (by simp; omega) ?_
  · intro j u hu
    have hj : j = 0 := by
      cases j with
      | zero => rfl
      | succ j => simp at hu
    subst hj
    have hadd : (⟨w0.heap.size, 0, none⟩ : Addr).add 0 = ⟨w0.heap.size, 0, none⟩ := by unfold Addr.add; split <;> simp_all
    rw [hadd, World.cell?_alloc_at _ _ _ _ (by rfl)]
    simpa using hu
  · intro u hu
    simp only [List.mem_cons, List.not_mem_nil, or_false] at hu
    subst hu; rfl
  · intro v' w' ho' hg _
    refine H v' w' ?_ ?_
    · unfold OI
      rw [List.length_append, List.map_append]
      exact ho'
    · refine (((Below.refl B w0).alloc hB (.cells #[.int .i64 t] T))).grown hg (by simp; omega) ?_
      intro q hq
      exact (World.ownsRow.lt h q hq).1
theorem own_cells {B : Nat} {w : World} {T : TypeId} {v : Value} {xs : List Value} {n : Nat} (h : w.ownsRow B T 1 v n xs) (hn : 0 < n) :
    ∃ g cap, v = .slice (some ⟨g, 0, none⟩) n cap ∧ n ≤ cap ∧ B ≤ g ∧ g < w.heap.size ∧ ∀ j u, xs[j]? = some u → w.cell? ⟨g, j, none⟩ = some u := by
  obtain ⟨g, cap, rfl⟩ := Go.Joins.ownsRow_form h hn
  refine ⟨g, cap, rfl, ?_, (World.ownsRow.lt h g rfl).1, (World.ownsRow.lt h g rfl).2, fun j u hu => ?_⟩
  · rcases h.2 with ⟨h', _⟩ | ⟨g', cap', cur, h', _, _, hc, _⟩
    · simp at h'
    · simp only [Value.slice.injEq, Option.some.injEq, Addr.mk.injEq, and_true, true_and] at h'
      rw [h'.2]; exact hc
  · have := World.ownsRow.cells h rfl j u hu
    have hadd : (⟨g, 0, none⟩ : Addr).add j = ⟨g, j, none⟩ := by unfold Addr.add; split <;> simp_all
    rwa [hadd] at this
end Go.Proofs.YtajmjkliblippaaGreatDoor.Ty
namespace Go.Proofs.YtajmjkliblippaaGreatDoor.Ty
set_option linter.unusedVariables false
def decI (n : Int) : List UInt8 := Lib.decDigits n.toNat
theorem dg_nat (n : Int) : ((dg n).toNat : Int) = 48 + n % 10 := by
  unfold dg
  rw [UInt8.toNat_ofNat']
  omega
theorem decI_small {n : Int} (h0 : 0 ≤ n) (h1 : n < 10) : decI n = [dg n] := dec_small h0 h1
theorem decI_big {n : Int} (h : 10 ≤ n) : decI n = decI (n / 10) ++ [dg n] := dec_big h
theorem dg_dig (n : Int) : isDig (dg n) = true := by rw [isDig_iff, dg_nat]; omega
theorem decI_facts (k : Nat) : ∀ n : Int, 0 ≤ n → n.toNat ≤ k → valT (decI n) = n ∧ (decI n).all isDig = true ∧ decI n ≠ [] ∧ (1 ≤ n → ((decI n).headD 0).toNat ≠ 48) := by
  induction k with
  | zero =>
    intro n h0 h1
    rw [decI_small h0 (by omega)]
    refine ⟨?_, ?_, by simp, fun h => by omega⟩
    · show 10 * 0 + (((dg n).toNat : Int) - 48) = n
      rw [dg_nat]; omega
    · simp [dg_dig]
  | succ k ih =>
    intro n h0 h1
    by_cases h : n < 10
    · rw [decI_small h0 h]
      refine ⟨?_, ?_, by simp, fun h => ?_⟩
      · show 10 * 0 + (((dg n).toNat : Int) - 48) = n
        rw [dg_nat]; omega
      · simp [dg_dig]
      · show (dg n).toNat ≠ 48
        have := dg_nat n; omega
    · obtain ⟨a, b, c, d⟩ := ih (n / 10) (by omega) (by omega)
      rw [decI_big (by omega)]
      refine ⟨?_, ?_, by simp, fun _ => ?_⟩
      · rw [valT_snoc, a, dg_nat]; omega
      · rw [List.all_append, b]; simp [dg_dig]
      · have hh : (decI (n / 10) ++ [dg n]).headD 0 = (decI (n / 10)).headD 0 := by
          cases hl : decI (n / 10) with
          | nil => exact absurd hl c
          | cons x r => rfl
        rw [hh]
        exact d (by omega)
theorem decI_len (k : Nat) : ∀ n : Int, 0 ≤ n → n < 10 ^ (k + 1) → (decI n).length ≤ k + 1 := by
  induction k with
  | zero => intro n h0 h1; rw [decI_small h0 (by simpa using h1)]; simp
  | succ k ih =>
    intro n h0 h1
    by_cases h : n < 10
    · rw [decI_small h0 h]; simp
    · rw [decI_big (by omega), List.length_append]
      have := ih (n / 10) (by omega) (by
        rw [Int.pow_succ] at h1
        omega)
      simp only [List.length_cons, List.length_nil]
      omega
theorem numD_dec {n : Int} (neg : Bool) (h0 : 0 ≤ n) (h1 : n < 1000000000000000) (hn : neg = true → 1 ≤ n) : numD (decI n) neg = (if neg = true then -n else n, true) := by
  obtain ⟨a, b, c, d⟩ := decI_facts n.toNat n h0 (Nat.le_refl _)
  have hl := decI_len 14 n h0 (by have : (10 : Int) ^ (14 + 1) = 1000000000000000 := by decide
                                  omega)
  have hpos : 1 ≤ (decI n).length := by cases hh : decI n with | nil => exact absurd hh c | cons x r => simp
  unfold numD
  rw [if_neg (by omega)]
  have hz : ¬ (((decI n).headD 0).toNat = (48 : Int) ∧ (1 < (decI n).length ∨ neg = true)) := by
    rintro ⟨g, g2⟩
    by_cases h2 : 1 ≤ n
    · have := d h2; omega
    · obtain rfl : n = 0 := by omega
      rcases g2 with g2 | g2
      · rw [decI_small (by decide) (by decide)] at g2; simp at g2
      · have := hn g2; omega
  rw [if_neg hz, if_pos b, a]
theorem numF_itoa {n : Int} (h0 : -1000000000000000 < n) (h1 : n < 1000000000000000) : numF (Lib.itoa n) = (n, true) := by
  unfold numF Lib.itoa
  by_cases h : n < 0
  · rw [if_pos h, (pre_minus _).1, (pre_minus _).2]
    have := numD_dec (n := -n) true (by omega) (by omega) (fun _ => by omega)
    unfold decI at this
    rw [show n.natAbs = (-n).toNat by omega, this, if_pos rfl]
    simp
  · rw [if_neg h]
    obtain ⟨a, b, c, d⟩ := decI_facts n.toNat n (by omega) (Nat.le_refl _)
    have hne : ∀ r, Lib.decDigits n.toNat ≠ 45 :: r := by
      intro r e
      have b' : (Lib.decDigits n.toNat).all isDig = true := b
      rw [e, List.all_cons] at b'
      simp [isDig] at b'
    rw [(pre_none hne).1, (pre_none hne).2]
    exact numD_dec false (by omega) h1 (fun g => by cases g)
/-- the other way -/
theorem isDig_back {c : UInt8} (h : isDig c = true) : dg ((c.toNat : Int) - 48) = c := by
  have hc := isDig_iff.1 h
  apply UInt8.toNat_inj.1
  have := dg_nat ((c.toNat : Int) - 48)
  omega
theorem dg_add (m d : Int) (h0 : 0 ≤ d) (h1 : d < 10) : dg (10 * m + d) = dg d := by unfold dg; congr 2; omega
theorem valT_pos : ∀ (l : List UInt8), l.all isDig = true → l ≠ [] → (l.headD 0).toNat ≠ 48 → 1 ≤ valT l := by
  intro l h hne hh
  cases l with
  | nil => exact absurd rfl hne
  | cons c r =>
    rw [List.all_cons, Bool.and_eq_true] at h
    have hc := isDig_iff.1 h.1
    have hc2 : (c.toNat : Int) ≠ 48 := by
      intro e; apply hh; show c.toNat = 48; omega
    have key : ∀ (r : List UInt8) (n : Int), r.all isDig = true → 1 ≤ n → 1 ≤ r.foldl (fun n c => 10 * n + ((c.toNat : Int) - 48)) n := by
      intro r
      induction r with
      | nil => intro n _ h; exact h
      | cons c r ih =>
        intro n h hn
        rw [List.all_cons, Bool.and_eq_true] at h
        have := isDig_iff.1 h.1
        refine ih _ h.2 ?_
        show 1 ≤ 10 * n + ((c.toNat : Int) - 48)
        omega
    refine key r _ h.2 ?_
    show 1 ≤ 10 * 0 + ((c.toNat : Int) - 48)
    omega
theorem decI_back (k : Nat) : ∀ l : List UInt8, l.length = k + 1 → l.all isDig = true → ((l.headD 0).toNat = 48 → l.length = 1) → decI (valT l) = l := by
  induction k with
  | zero =>
    intro l hl hd _
    match l, hl with
    | [c], _ =>
      rw [List.all_cons, Bool.and_eq_true] at hd
      have hc := isDig_iff.1 hd.1
      have e : valT [c] = (c.toNat : Int) - 48 := by show 10 * 0 + ((c.toNat : Int) - 48) = _; omega
      rw [e, decI_small (by omega) (by omega), isDig_back hd.1]
  | succ k ih =>
    intro l hl hd hz
    have hne : l ≠ [] := by intro e; rw [e] at hl; simp at hl
    obtain ⟨l', c, rfl⟩ : ∃ l' c, l = l' ++ [c] := ⟨l.dropLast, l.getLast hne, (List.dropLast_concat_getLast hne).symm⟩
    rw [List.length_append, List.length_cons, List.length_nil] at hl
    rw [List.all_append, Bool.and_eq_true] at hd
    have hc : isDig c = true := by simpa using hd.2
    have hcb := isDig_iff.1 hc
    have hl'ne : l' ≠ [] := by intro e; rw [e] at hl; simp at hl
    have hh : (l' ++ [c]).headD 0 = l'.headD 0 := by cases l' with | nil => exact absurd rfl hl'ne | cons x r => rfl
    have hz' : (l'.headD 0).toNat ≠ 48 := by
      intro e
      have := hz (by rw [hh]; exact e)
      rw [List.length_append, List.length_cons, List.length_nil] at this
      omega
    have hp := valT_pos l' hd.1 hl'ne hz'
    rw [valT_snoc, decI_big (by omega), dg_add _ _ (by omega) (by omega), isDig_back hc]
    rw [show (10 * valT l' + ((c.toNat : Int) - 48)) / 10 = valT l' by omega]
    rw [ih l' (by omega) hd.1 (fun e => absurd e hz')]
theorem numF_back {f : List UInt8} (h : (numF f).2 = true) : Lib.itoa (numF f).1 = f := by
  have key : ∀ (d : List UInt8) (neg : Bool), (numD d neg).2 = true → d ≠ [] ∧ d.all isDig = true ∧ ((d.headD 0).toNat = 48 → d.length = 1 ∧ neg = false) ∧ (numD d neg).1 = if neg = true then -valT d else valT d := by
    intro d neg
    unfold numD
    split
    · intro g; cases g
    · rename_i h1
      split
      · intro g; cases g
      · rename_i h2
        split
        · rename_i h3
          intro _
          refine ⟨by intro e; rw [e] at h1; simp at h1, h3, fun e => ?_, rfl⟩
          have h4 : ¬ (1 < d.length ∨ neg = true) := fun g => h2 ⟨by omega, g⟩
          refine ⟨by omega, ?_⟩
          cases neg
          · rfl
          · exact absurd (.inr rfl) h4
        · intro g; cases g
  unfold numF at h ⊢
  by_cases hm : ∃ r, f = 45 :: r
  · obtain ⟨r, rfl⟩ := hm
    rw [(pre_minus r).1, (pre_minus r).2] at h ⊢
    obtain ⟨a, b, c, d⟩ := key r true h
    rw [d, if_pos rfl]
    have hz : (r.headD 0).toNat ≠ 48 := fun e => by have := (c e).2; cases this
    have hv := valT_pos r b a hz
    unfold Lib.itoa
    rw [if_pos (by omega), show (-valT r).natAbs = (valT r).toNat by omega]
    obtain ⟨k, hk⟩ : ∃ k, r.length = k + 1 := ⟨r.length - 1, by cases r with | nil => exact absurd rfl a | cons x y => simp⟩
    have := decI_back k r hk b (fun e => absurd e hz)
    unfold decI at this
    rw [this]
  · have hn := pre_none (l := f) (fun r e => hm ⟨r, e⟩)
    rw [hn.1, hn.2] at h ⊢
    obtain ⟨a, b, c, d⟩ := key f false h
    rw [d, if_neg (by decide)]
    have hv : 0 ≤ valT f := (fold_bd f 0 b (Int.le_refl 0)).1
    unfold Lib.itoa
    rw [if_neg (by omega)]
    obtain ⟨k, hk⟩ : ∃ k, f.length = k + 1 := ⟨f.length - 1, by cases f with | nil => exact absurd rfl a | cons x y => simp⟩
    exact decI_back k f hk b (fun e => (c e).1)
/-- blanks and fields -/
def unfl : List (List UInt8) → List UInt8
  | [] => []
  | [f] => f
  | f :: g :: r => f ++ 32 :: unfl (g :: r)
theorem unfl_fields (k : Nat) : ∀ l : List UInt8, l.count 32 = k → unfl (fieldsL l) = l ∧ fieldsL l ≠ [] := by
  induction k with
  | zero => intro l h; rw [fields_none (List.count_eq_zero.1 h)]; exact ⟨rfl, by simp⟩
  | succ k ih =>
    intro l h
    obtain ⟨a, b, rfl, ha⟩ := List.eq_append_cons_of_mem (show (32 : UInt8) ∈ l from List.count_pos_iff.1 (by omega))
    have hc : b.count 32 = k := by rw [List.count_append, List.count_eq_zero.2 ha, List.count_cons_self] at h; omega
    obtain ⟨p, q⟩ := ih b hc
    rw [fields_cut ha]
    refine ⟨?_, by simp⟩
    cases hb : fieldsL b with
    | nil => exact absurd hb q
    | cons x y => rw [hb] at p; show a ++ 32 :: unfl (x :: y) = _; rw [p]
theorem itoa_no32 (n : Int) : (32 : UInt8) ∉ Lib.itoa n := by
  have key : ∀ m : Int, 0 ≤ m → (32 : UInt8) ∉ decI m := by
    intro m hm hmem
    obtain ⟨-, b, -, -⟩ := decI_facts m.toNat m hm (Nat.le_refl _)
    have := List.all_eq_true.1 b 32 hmem
    simp [isDig] at this
  unfold Lib.itoa
  split
  · rename_i h
    have := key (-n) (by omega)
    unfold decI at this
    rw [show n.natAbs = (-n).toNat by omega]
    simp only [List.mem_cons, not_or]
    exact ⟨by decide, this⟩
  · exact key n (by omega)
end Go.Proofs.YtajmjkliblippaaGreatDoor.Ty
namespace Go.Proofs.YtajmjkliblippaaGreatDoor.Ty
set_option linter.unusedVariables false
open Go.RowKit Tx
theorem cat3 (a d : ByteArray) : (a ++ (⟨#[32]⟩ ++ d)).data.toList = a.data.toList ++ [32] ++ d.data.toList := by
  rw [ByteArray.data_append, ByteArray.data_append]
  simp
theorem cat2 (d : ByteArray) (c : UInt8) : (d ++ ⟨#[32]⟩ ++ ⟨#[c]⟩).data.toList = d.data.toList ++ [32, c] := by
  rw [ByteArray.data_append, ByteArray.data_append]
  simp
theorem ret_str2 {a : ByteArray} {b : List UInt8} (h : a.data.toList = b) : Ending.returned (.string a) = .returned (.string ⟨b.toArray⟩) := by rw [← h]
theorem tsize {a : ByteArray} {l : List UInt8} (h : a.data.toList = l) : a.size = l.length := by rw [← h, Array.length_toList]; rfl
end Go.Proofs.YtajmjkliblippaaGreatDoor.Ty
