/-
  The walks of wind's texts: component, Parse, Text.
-/
import Derived.Test.YtdfpbojlimeccaaDoorWindWalks
import Derived.Lib.AppendIntMem
namespace Go.Proofs.YtdfpbojlimeccaaDoor
set_option linter.unusedVariables false
open Go.RowKit Tr Sq

def isDig (c : UInt8) : Bool := decide (48 ≤ (c.toNat : Int) ∧ (c.toNat : Int) ≤ 57)
def valStep (cap : Int) (n : Int) (c : UInt8) : Int := min (10 * n + ((c.toNat : Int) - 48)) cap
def valD (cap : Int) (l : List UInt8) : Int := l.foldl (valStep cap) 0
/-- digits read: the number, and whether all are digits -/
def digF (cap : Int) (l : List UInt8) : Int × Bool := if l.all isDig = true then (valD cap l, true) else (0, false)
def compF (l : List UInt8) (neg : Bool) : Int × Bool :=
  if l = [] then (0, false) else if ((l.headD 0).toNat : Int) = 48 ∧ (1 < l.length ∨ neg = true) then (0, false)
  else if l.all isDig = true then (if neg = true then -valD 1000 l else valD 1000 l, true) else (0, false)

theorem valStep_bd {cap n : Int} {c : UInt8} (hc : isDig c = true) (h0 : 0 ≤ n) (h1 : n ≤ cap) (hcap : 0 ≤ cap) : 0 ≤ valStep cap n c ∧ valStep cap n c ≤ cap := by
  unfold isDig at hc
  have := of_decide_eq_true hc
  unfold valStep
  omega
theorem valD_snoc (cap : Int) (l : List UInt8) (c : UInt8) : valD cap (l ++ [c]) = valStep cap (valD cap l) c := by
  unfold valD; rw [List.foldl_append]; rfl
theorem valD_bd {cap : Int} (hcap : 0 ≤ cap) (l : List UInt8) (h : l.all isDig = true) : 0 ≤ valD cap l ∧ valD cap l ≤ cap := by
  have key : ∀ (l : List UInt8) (n : Int), l.all isDig = true → 0 ≤ n → n ≤ cap → 0 ≤ l.foldl (valStep cap) n ∧ l.foldl (valStep cap) n ≤ cap := by
    intro l
    induction l with
    | nil => intro n _ h0 h1; exact ⟨h0, h1⟩
    | cons c r ih =>
      intro n h h0 h1
      rw [List.all_cons, Bool.and_eq_true] at h
      have := valStep_bd h.1 h0 h1 hcap
      exact ih _ h.2 this.1 this.2
  exact key l 0 h (Int.le_refl 0) hcap
theorem take_snoc (s : ByteArray) (k : Nat) (h : k < s.size) : s.data.toList.take (k + 1) = s.data.toList.take k ++ [s[k]] := by
  rw [List.take_succ_eq_append_getElem (by simpa using h)]; rfl

def DigRel (t : ByteArray) (s6 s7 : Value) : Prop := ∃ k : Nat, k ≤ t.size ∧ s7 = .int .i64 k ∧ s6 = .int .i64 (valD 1000 (t.data.toList.take k)) ∧ Hid ((t.data.toList.take k).all isDig = true)

theorem ba_eta (t : ByteArray) : (⟨t.data.toList.toArray⟩ : ByteArray) = t := by cases t; simp
theorem cutp_any (s t : ByteArray) (neg : Bool) (w : World) (ht : Lib.trimPrefix s.data.toList [45] = t.data.toList) (hn : Lib.hasPrefix s.data.toList [45] = neg) :
    Calls Tryd.prog 78 #[.string s, .string ⟨#[45]⟩] w fun e w' => e = .returned (.tuple #[.string t, .bool neg]) ∧ w = w' :=
  (Tryd.strings_CutPrefix s ⟨#[45]⟩ w).mono fun e w' ⟨he, hw⟩ => ⟨by
    rw [he]
    show Ending.returned (.tuple #[.string ⟨(Lib.trimPrefix s.data.toList [45]).toArray⟩, .bool (Lib.hasPrefix s.data.toList [45])]) = _
    rw [ht, hn, ba_eta], hw.symm⟩

theorem len_data (t : ByteArray) : t.data.toList.length = t.size := by rw [Array.length_toList]; rfl
theorem head_of (t : ByteArray) (h : 0 < t.size) : t.data.toList.headD 0 = t[0] := by
  have : t.data.toList = t.data.toList.take (0 + 1) ++ t.data.toList.drop 1 := (List.take_append_drop 1 _).symm
  rw [this, take_snoc t 0 h]; rfl
theorem notall (t : ByteArray) (k : Nat) (hk : k < t.size) (h : isDig t[k] = false) : t.data.toList.all isDig = false := by
  have e : t.data.toList = t.data.toList.take (k + 1) ++ t.data.toList.drop (k + 1) := (List.take_append_drop _ _).symm
  rw [e, take_snoc t k hk, List.all_append, List.all_append]
  simp [h]
theorem ret_ib {a b : Int} {x y : Bool} (p : Int × Bool) (h : p = (b, y)) (ha : a = b) (hx : x = y) : Ending.returned (.tuple #[.int .i64 a, .bool x]) = .returned (.tuple #[.int .i64 p.1, .bool p.2]) := by rw [h, ha, hx]
theorem compF_empty (t : ByteArray) (neg : Bool) (h : t.size = 0) : compF t.data.toList neg = (0, false) := by
  unfold compF; rw [if_pos (List.eq_nil_of_length_eq_zero (by rw [len_data]; exact h))]
theorem compF_zero (t : ByteArray) (neg : Bool) (h : 0 < t.size) (h0 : (t[0].toNat : Int) = 48) (h1 : 1 < t.size ∨ neg = true) : compF t.data.toList neg = (0, false) := by
  unfold compF
  by_cases hn : t.data.toList = []
  · rw [if_pos hn]
  · rw [if_neg hn, head_of t h, if_pos ⟨h0, by rw [len_data]; exact h1⟩]
theorem compF_bad (t : ByteArray) (neg : Bool) (k : Nat) (hk : k < t.size) (h : isDig t[k] = false) : compF t.data.toList neg = (0, false) := by
  unfold compF
  have := notall t k hk h
  by_cases hn : t.data.toList = []
  · rw [if_pos hn]
  · rw [if_neg hn]
    split
    · rfl
    · rw [this]; rfl
theorem compF_good (t : ByteArray) (neg : Bool) (h : 0 < t.size) (h1 : ¬ ((t[0].toNat : Int) = 48 ∧ (1 < t.size ∨ neg = true))) (ha : t.data.toList.all isDig = true) :
    compF t.data.toList neg = (if neg = true then -valD 1000 t.data.toList else valD 1000 t.data.toList, true) := by
  unfold compF
  rw [if_neg (by intro e; have := congrArg List.length e; rw [len_data] at this; simp only [List.length_nil] at this; omega), head_of t h, if_neg (by rw [len_data]; exact h1), if_pos ha]

set_option maxHeartbeats 1000000 in
theorem component_zero (s t : ByteArray) (neg : Bool) (w : World) (hs : t.size ≤ 9223372036854775807) (HC : Hid (∀ w, Calls Tryd.prog 78 #[.string s, .string ⟨#[45]⟩] w fun e w' => e = .returned (.tuple #[.string t, .bool neg]) ∧ w = w'))
    (h : t.size = 0 ∨ ∃ hp : 0 < t.size, (t[0].toNat : Int) = 48 ∧ (1 < t.size ∨ neg = true)) :
    Calls Tryd.prog 59 #[.string s] w fun e w' => e = .returned (.tuple #[.int .i64 (compF t.data.toList neg).1, .bool (compF t.data.toList neg).2]) ∧ w = w' := by
  by_cases h0 : t.size = 0
  · have f1 : t.toList = [] := by rw [Lib.toList_data]; exact List.eq_nil_of_length_eq_zero (by rw [len_data]; exact h0)
    have hr := Lib.hid (compF_empty t neg h0)
    clear h h0
    go_enter Tryd.func59, Tryd.ntmps59
    go_wp2_with (go_at_call 78; refine (HC.out _).mono ?_; rintro e w' ⟨rfl, rfl⟩)
    go_ret2
    exact ⟨ret_ib _ hr.out rfl rfl, rfl⟩
  · obtain ⟨hp, hz, h1⟩ : ∃ hp : 0 < t.size, (t[0].toNat : Int) = 48 ∧ (1 < t.size ∨ neg = true) := by rcases h with h | h; exact absurd h h0; exact h
    have f1 : ¬ t.toList = [] := fun e => h0 (by rw [← len_data, ← Lib.toList_data, e]; rfl)
    have f2 : t.toList.isEmpty = false := by simpa using f1
    have f3 : ((t[0].toNat : Int) == 48) = true := by simpa using hz
    have hr := Lib.hid (compF_zero t neg hp hz h1)
    by_cases h2 : 1 < t.size
    · have f4 : decide (1 < (t.size : Int)) = true := by simp; omega
      clear h1 hz
      go_enter Tryd.func59, Tryd.ntmps59
      go_wp2_with (go_at_call 78; refine (HC.out _).mono ?_; rintro e w' ⟨rfl, rfl⟩)
      go_ret2
      exact ⟨ret_ib _ hr.out rfl rfl, rfl⟩
    · have f4 : decide (1 < (t.size : Int)) = false := by simp; omega
      obtain rfl : neg = true := by rcases h1 with h | h; exact absurd h h2; exact h
      clear h1 hz
      go_enter Tryd.func59, Tryd.ntmps59
      go_wp2_with (go_at_call 78; refine (HC.out _).mono ?_; rintro e w' ⟨rfl, rfl⟩)
      go_ret2
      exact ⟨ret_ib _ hr.out rfl rfl, rfl⟩
set_option maxHeartbeats 2000000 in
theorem component_loop (s t : ByteArray) (neg : Bool) (w : World) (hs : t.size ≤ 9223372036854775807) (HC : Hid (∀ w, Calls Tryd.prog 78 #[.string s, .string ⟨#[45]⟩] w fun e w' => e = .returned (.tuple #[.string t, .bool neg]) ∧ w = w'))
    (hp : 0 < t.size) (h : ¬ ((t[0].toNat : Int) = 48 ∧ (1 < t.size ∨ neg = true))) :
    Calls Tryd.prog 59 #[.string s] w fun e w' => e = .returned (.tuple #[.int .i64 (compF t.data.toList neg).1, .bool (compF t.data.toList neg).2]) ∧ w = w' := by
  have f1 : ¬ t.toList = [] := fun e => by have h0 := len_data t; rw [← Lib.toList_data, e] at h0; simp only [List.length_nil] at h0; omega
  have f2 : t.toList.isEmpty = false := by simpa using f1
  have GOOD := Lib.hid (compF_good t neg hp h)
  have BAD := Lib.hid (compF_bad t neg)
  by_cases hz : (t[0].toNat : Int) = 48
  · have f3 : ((t[0].toNat : Int) == 48) = true := by simpa using hz
    have f4 : decide (1 < (t.size : Int)) = false := by have := fun g => h ⟨hz, .inl g⟩; simp; omega
    obtain rfl : neg = false := by cases neg with
      | false => rfl
      | true => exact absurd ⟨hz, .inr rfl⟩ h
    clear h hz
    go_enter Tryd.func59, Tryd.ntmps59
    go_wp2_with (go_at_call 78; refine (HC.out _).mono ?_; rintro e w' ⟨rfl, rfl⟩)
    go_loop [6, 7] (DigRel t) (fun _ i => t.size - (intOf i).toNat)
    case atStart => exact ⟨0, Nat.zero_le _, rfl, rfl, (rfl : (t.data.toList.take 0).all isDig = true)⟩
    case round =>
      obtain ⟨k, hk, rfl, rfl, hd⟩ := hrel
      obtain ⟨v0, v1⟩ := valD_bd (cap := 1000) (by decide) _ hd.out
      by_cases hlt : k < t.size
      · have HS := Lib.hid (take_snoc t k hlt)
        go_wp2
        · go_ret2
          exact ⟨ret_ib _ (BAD.out k hlt (by unfold isDig; simp; omega)) rfl rfl, rfl⟩
        · go_round
          case rel =>
            refine ⟨k + 1, by omega, by go_num, ?_, ?_⟩
            · rw [HS.out, valD_snoc]; rfl
            · show (t.data.toList.take (k + 1)).all isDig = true
              rw [HS.out, List.all_append, hd.out]
              simp [isDig]; omega
          case measure => simp [intOf]; omega
        · go_ret2
          exact ⟨ret_ib _ (BAD.out k hlt (by unfold isDig; simp; omega)) rfl rfl, rfl⟩
      · have e : t.data.toList.take k = t.data.toList := List.take_of_length_le (by rw [len_data]; omega)
        have E := Lib.hid e
        have G := Lib.hid (GOOD.out (by rw [← e]; exact hd.out))
        clear e
        go_wp2
        go_ret2
        exact ⟨ret_ib _ G.out (by rw [E.out]; rfl) rfl, rfl⟩
  · have f3 : ((t[0].toNat : Int) == 48) = false := by simpa using hz
    clear h hz
    go_enter Tryd.func59, Tryd.ntmps59
    go_wp2_with (go_at_call 78; refine (HC.out _).mono ?_; rintro e w' ⟨rfl, rfl⟩)
    go_loop [6, 7] (DigRel t) (fun _ i => t.size - (intOf i).toNat)
    case atStart => exact ⟨0, Nat.zero_le _, rfl, rfl, (rfl : (t.data.toList.take 0).all isDig = true)⟩
    case round =>
      obtain ⟨k, hk, rfl, rfl, hd⟩ := hrel
      obtain ⟨v0, v1⟩ := valD_bd (cap := 1000) (by decide) _ hd.out
      by_cases hlt : k < t.size
      · have HS := Lib.hid (take_snoc t k hlt)
        go_wp2
        · go_ret2
          exact ⟨ret_ib _ (BAD.out k hlt (by unfold isDig; simp; omega)) rfl rfl, rfl⟩
        · go_round
          case rel =>
            refine ⟨k + 1, by omega, by go_num, ?_, ?_⟩
            · rw [HS.out, valD_snoc]; rfl
            · show (t.data.toList.take (k + 1)).all isDig = true
              rw [HS.out, List.all_append, hd.out]
              simp [isDig]; omega
          case measure => simp [intOf]; omega
        · go_ret2
          exact ⟨ret_ib _ (BAD.out k hlt (by unfold isDig; simp; omega)) rfl rfl, rfl⟩
      · have e : t.data.toList.take k = t.data.toList := List.take_of_length_le (by rw [len_data]; omega)
        have E := Lib.hid e
        have G := Lib.hid (GOOD.out (by rw [← e]; exact hd.out))
        clear e
        cases neg
        · go_wp2
          go_ret2
          exact ⟨ret_ib _ G.out (by rw [E.out]; rfl) rfl, rfl⟩
        · go_wp2
          go_ret2
          exact ⟨ret_ib _ G.out (by rw [E.out]; rfl) rfl, rfl⟩

/-- component -/
theorem trim_size (s : ByteArray) : (Lib.trimPrefix s.data.toList [45]).length ≤ s.size := by
  unfold Lib.trimPrefix
  rw [← len_data]
  split
  · rw [List.length_drop]; omega
  · exact Nat.le_refl _
def compS (s : List UInt8) : Int × Bool := compF (Lib.trimPrefix s [45]) (Lib.hasPrefix s [45])
theorem component_any (s : ByteArray) (w : World) (hs : s.size ≤ 9223372036854775807) :
    Calls Tryd.prog 59 #[.string s] w fun e w' => e = .returned (.tuple #[.int .i64 (compS s.data.toList).1, .bool (compS s.data.toList).2]) ∧ w = w' := by
  obtain ⟨t, ht⟩ : ∃ t : ByteArray, Lib.trimPrefix s.data.toList [45] = t.data.toList := ⟨⟨(Lib.trimPrefix s.data.toList [45]).toArray⟩, rfl⟩
  have hsz : t.size ≤ 9223372036854775807 := by have := trim_size s; rw [ht, len_data] at this; omega
  have HC := Lib.hid (fun w => cutp_any s t (Lib.hasPrefix s.data.toList [45]) w ht rfl)
  unfold compS
  rw [ht]
  by_cases h : t.size = 0 ∨ ∃ hp : 0 < t.size, (t[0].toNat : Int) = 48 ∧ (1 < t.size ∨ Lib.hasPrefix s.data.toList [45] = true)
  · exact component_zero s t _ w hsz HC h
  · have hp : 0 < t.size := by rcases Nat.eq_zero_or_pos t.size with h0 | h0; exact absurd (.inl h0) h; exact h0
    exact component_loop s t _ w hsz HC hp (fun g => h (.inr ⟨hp, g⟩))
end Go.Proofs.YtdfpbojlimeccaaDoor
