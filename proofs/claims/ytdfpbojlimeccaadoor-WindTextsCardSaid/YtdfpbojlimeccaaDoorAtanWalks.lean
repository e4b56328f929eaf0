/-
  The walks of the roots, sort.Search over the closure of trig.greatest, Atan2 and Hypot.
-/
import Derived.Test.YtdfpbojlimeccaaDoorTrigWalks
import Derived.BigQuiet
import Derived.Deep.QuietTactic
import Derived.Deep.LoopGhost
namespace Go.Proofs.YtdfpbojlimeccaaDoor
set_option linter.unusedVariables false
open Go.RowKit Tr Sq

/-- what the search gives back: how many places are false -/
structure Cutoff (pB : Int → Bool) (n k : Int) : Prop where
  lo : 0 ≤ k
  hi : k ≤ n
  no : ∀ t, 0 ≤ t → t < k → pB t = false
  yes : ∀ t, k ≤ t → t < n → pB t = true
def SearchPost (pB : Int → Bool) (n : Int) (w : World) (e : Ending) (w' : World) : Prop := ∃ k : Int, e = .returned (.int .i64 k) ∧ Cutoff pB n k ∧ Below w.heap.size w w'

/-- what stands before lo is false, what stands from hi on is true -/
def Around (pB : Int → Bool) (n lo hi : Nat) : Prop := (∀ t : Int, 0 ≤ t → t < lo → pB t = false) ∧ (∀ t : Int, hi ≤ t → t < n → pB t = true)

set_option maxHeartbeats 1000000 in
theorem search_greatest (pB : Int → Bool) (n : Nat) (a3 : Addr) (w : World) (hn : n < 4611686018427387904)
    (hf : ∀ W, Below w.heap.size w W → ∀ i : Int, 0 ≤ i → i < n → Calls Tryd.prog 81 #[.int .i64 i, .pointer (some a3)] W fun e w' => e = .returned (.bool (pB i)) ∧ Below W.heap.size W w')
    (hmono : ∀ a b : Int, 0 ≤ a → a ≤ b → b < n → pB a = true → pB b = true) :
    Calls Tryd.prog 80 #[.int .i64 n, .func (.func 81) #[] #[.pointer (some a3)]] w (SearchPost pB n w) := by
  have HF := Lib.hid hf
  have M := Lib.hid hmono
  clear hf hmono
  go_enter Tryd.func80, Tryd.ntmps80
  go_wp2
  go_loopg [5, 6] n (fun kx s5 s6 wr => ∃ (lo hi : Nat), s5 = .int .i64 lo ∧ s6 = .int .i64 hi ∧ lo ≤ hi ∧ hi ≤ n ∧ hi - lo ≤ kx ∧ Below w.heap.size w wr ∧ Hid (Around pB n lo hi))
  case atStart => exact ⟨0, n, rfl, rfl, Nat.zero_le _, Nat.le_refl _, by omega, Below.refl _ _, ⟨fun t h0 ht => absurd ht (by omega), fun t h1 h2 => by omega⟩⟩
  case round =>
    obtain ⟨lo, hi, rfl, rfl, hlh, hin, hg, hb, I⟩ := hrel
    by_cases hlt : lo < hi
    · have hc := HF.out _ hb (((lo + hi) / 2 : Nat) : Int) (by omega) (by omega)
      rw [show (((lo + hi) / 2 : Nat) : Int) = ((lo : Int) + (hi : Int)) / 2 by omega] at hc
      cases hp : pB (((lo : Int) + (hi : Int)) / 2) <;> rw [hp] at hc
      · have HP := Lib.hid hp
        clear hp
        go_wp2_with (go_at_call 81; refine hc.mono ?_; rintro e w' ⟨rfl, hb'⟩)
        go_roundg (hi - ((lo + hi) / 2 + 1))
        case measure => omega
        case rel =>
          refine ⟨(lo + hi) / 2 + 1, hi, by rw [show ((lo : Int) + (hi : Int)) / 2 + 1 = (((lo + hi) / 2 + 1 : Nat) : Int) by omega], rfl, by omega, hin, Nat.le_refl _, hb.trans (hb'.mono hb.size), ⟨fun t h0 ht => ?_, I.out.2⟩⟩
          cases h : pB t with
          | false => rfl
          | true =>
            have := M.out t (((lo : Int) + (hi : Int)) / 2) h0 (by omega) (by omega) h
            rw [HP.out] at this; cases this
      · have HP := Lib.hid hp
        clear hp
        go_wp2_with (go_at_call 81; refine hc.mono ?_; rintro e w' ⟨rfl, hb'⟩)
        go_roundg ((lo + hi) / 2 - lo)
        case measure => omega
        case rel =>
          refine ⟨lo, (lo + hi) / 2, rfl, by rw [show ((lo : Int) + (hi : Int)) / 2 = (((lo + hi) / 2 : Nat) : Int) by omega], by omega, by omega, Nat.le_refl _, hb.trans (hb'.mono hb.size), ⟨I.out.1, fun t ht htn => ?_⟩⟩
          exact M.out (((lo : Int) + (hi : Int)) / 2) t (by omega) (by omega) htn HP.out
    · obtain rfl : hi = lo := by omega
      go_wp2
      go_ret
      exact ⟨hi, rfl, ⟨by omega, by omega, I.out.1, I.out.2⟩, hb⟩
/-- .. at trig.Atan2's bound -/
theorem search_octant (pB : Int → Bool) (a3 : Addr) (w : World)
    (hf : ∀ W, Below w.heap.size w W → ∀ i : Int, 0 ≤ i → i < 16200000 → Calls Tryd.prog 81 #[.int .i64 i, .pointer (some a3)] W fun e w' => e = .returned (.bool (pB i)) ∧ Below W.heap.size W w')
    (hmono : ∀ a b : Int, 0 ≤ a → a ≤ b → b < 16200000 → pB a = true → pB b = true) :
    Calls Tryd.prog 80 #[.int .i64 16200000, .func (.func 81) #[] #[.pointer (some a3)]] w (SearchPost pB 16200000 w) :=
  search_greatest pB 16200000 a3 w (by decide) hf hmono

theorem quiet_left {P : Program} {f : FuncId} {args : Array Value} {w : World} {n : Nat} {v : Value}
    (h : Calls P f args (w.drewN n) fun e w' => e = .returned v ∧ w.drewN n = w') : Calls P f args (w.drewN n) fun e w'' => e = .returned v ∧ ∃ m, w'' = w.drewN m :=
  h.mono fun _ _ ⟨he, hm⟩ => ⟨he, n, hm.symm⟩
theorem quiet_add_left {P : Program} {f : FuncId} {args : Array Value} {w : World} {a n : Nat} {v : Value}
    (h : Calls P f args (w.drewN (a + n)) fun e w' => e = .returned v ∧ w.drewN (a + n) = w') :
    Calls P f args (w.drewN (a + n)) fun e w'' => e = .returned v ∧ ∃ m, w'' = w.drewN (a + m) :=
  h.mono fun _ _ ⟨he, hm⟩ => ⟨he, n, hm.symm⟩
theorem below_drewN {B : Nat} {a w : World} (h : Below B a w) (n : Nat) : Below B a (w.drewN n) := ⟨h.os, h.tape, h.output, h.size, h.block⟩

def okB (m n c : Int) : Bool := decide (sinI c * m ≤ cosI c * n)
theorem prod_bd {s m : Int} (h1 : -1073741824 ≤ s) (h2 : s ≤ 1073741824) (h3 : 0 ≤ m) (h4 : m ≤ 4294967296) : -4611686018427387904 ≤ s * m ∧ s * m ≤ 4611686018427387904 := by
  have a := Int.mul_le_mul_of_nonneg_right h1 h3
  have b := Int.mul_le_mul_of_nonneg_right h2 h3
  omega

set_option maxHeartbeats 1000000 in
theorem atan_closure (c m n : Int) (a1 a2 : Addr) (w : World) (hc0 : 0 ≤ c) (hc1 : c ≤ 16200000) (hm0 : 0 ≤ m) (hm1 : m ≤ 4294967296) (hn0 : 0 ≤ n) (hn1 : n ≤ 4294967296)
    (h1 : w.cell? a1 = some (.int .i64 m)) (h2 : w.cell? a2 = some (.int .i64 n)) :
    Calls Tryd.prog 69 #[.int .i64 c, .pointer (some a1), .pointer (some a2)] w fun e w' => e = .returned (.bool (okB m n c)) ∧ Below w.heap.size w w' := by
  obtain ⟨s1, s2⟩ := sinI_range c
  obtain ⟨c1, c2⟩ := cosI_range c
  obtain ⟨p1, p2⟩ := prod_bd s1 s2 hm0 hm1
  obtain ⟨p3, p4⟩ := prod_bd c1 c2 hn0 hn1
  go_enter Tryd.func69, Tryd.ntmps69
  go_wp2
  go_quiet ((first
    | (go_at_call 48; exact quiet_left (sin_any _ _ (by omega) (by omega)))
    | (go_at_call 49; exact quiet_left (cos_any _ _ (by omega) (by omega)))))
  go_wp2
  go_ret
  exact ⟨rfl, below_drewN (Below.refl _ _) _⟩
end Go.Proofs.YtdfpbojlimeccaaDoor
