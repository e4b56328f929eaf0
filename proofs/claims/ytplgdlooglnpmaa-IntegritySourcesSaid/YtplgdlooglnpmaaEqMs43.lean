/-
  The walk of slices.Equal over measurements.
-/
import Derived.Test.YtplgdlooglnpmaaAbs43
namespace Go.Proofs.Ytplgdlooglnpmaa
set_option linter.unusedVariables false
open Go.RowKit

def EqR (l : List Ms) (w : World) (u : Value) (wr : World) : Prop := ∃ k : Nat, u = .int .i64 k ∧ k ≤ l.length ∧ ∃ n, wr = w.drewN n
set_option maxHeartbeats 4000000 in
set_option maxRecDepth 100000 in
theorem eqm_same (l : List Ms) (p1 p2 : Option Addr) (c1 c2 : Nat) (w : World) (h1 : LstAt l (.slice p1 l.length c1) w) (h2 : LstAt l (.slice p2 l.length c2) w) :
    Calls Try.prog 21 #[.slice p1 l.length c1, .slice p2 l.length c2] w fun e w' => e = .returned (.bool true) ∧ Below w.heap.size w w' := by
  have H1 := Lib.hid h1
  have H2 := Lib.hid h2
  clear h1 h2
  go_enter Try.func21, Try.ntmps21
  go_wp2
  go_loopw [13] (EqR l w) (fun i _ => l.length - (intOf i).toNat)
  case atStart => exact ⟨0, rfl, Nat.zero_le _, 0, rfl⟩
  case round =>
    obtain ⟨k, rfl, hk, n, rfl⟩ := hrel
    by_cases q : k < l.length
    · have q' : decide (k < l.length) = true := by simpa using q
      have q0 : (0 : Int) ≤ (k : Int) := by omega
      have q1 : (k : Int) < (l.length : Int) := by omega
      obtain ⟨b, o, rfl, _, _, M⟩ := lst_at H1.out q
      obtain ⟨b', o', rfl, _, _, M'⟩ := lst_at H2.out q
      have a0 : ∀ n, (w.drewN n).cell? ⟨b, o + k * 6, none⟩ = some (.int .i64 (nth l k).s) := fun _ => M.c0 k q
      have e0 : ∀ n, (w.drewN n).cell? ⟨b', o' + k * 6, none⟩ = some (.int .i64 (nth l k).s) := fun _ => M'.c0 k q
      have a1 : ∀ n, (w.drewN n).cell? ⟨b, o + k * 6 + 1, none⟩ = some (.int .i64 (nth l k).a) := fun _ => M.c1 k q
      have e1 : ∀ n, (w.drewN n).cell? ⟨b', o' + k * 6 + 1, none⟩ = some (.int .i64 (nth l k).a) := fun _ => M'.c1 k q
      have a2 : ∀ n, (w.drewN n).cell? ⟨b, o + k * 6 + 2, none⟩ = some (.int .i64 (nth l k).b) := fun _ => M.c2 k q
      have e2 : ∀ n, (w.drewN n).cell? ⟨b', o' + k * 6 + 2, none⟩ = some (.int .i64 (nth l k).b) := fun _ => M'.c2 k q
      have a3 : ∀ n, (w.drewN n).cell? ⟨b, o + k * 6 + 3, none⟩ = some (.int .i64 (nth l k).z) := fun _ => M.c3 k q
      have e3 : ∀ n, (w.drewN n).cell? ⟨b', o' + k * 6 + 3, none⟩ = some (.int .i64 (nth l k).z) := fun _ => M'.c3 k q
      have a4 : ∀ n, (w.drewN n).cell? ⟨b, o + k * 6 + 4, none⟩ = some (.int .i64 (nth l k).d) := fun _ => M.c4 k q
      have e4 : ∀ n, (w.drewN n).cell? ⟨b', o' + k * 6 + 4, none⟩ = some (.int .i64 (nth l k).d) := fun _ => M'.c4 k q
      have a5 : ∀ n, (w.drewN n).cell? ⟨b, o + k * 6 + 5, none⟩ = some (.int .i64 (nth l k).w) := fun _ => M.c5 k q
      have e5 : ∀ n, (w.drewN n).cell? ⟨b', o' + k * 6 + 5, none⟩ = some (.int .i64 (nth l k).w) := fun _ => M'.c5 k q
      have alt := M.lt
      have elt := M'.lt
      clear M M'
      generalize nth l k = m at *
      go_wp2_with fail
      go_quiet (fail)
      go_wp2
      exact ⟨⟨k + 1, by go_num, by omega, _, rfl⟩, by simp [intOf]; omega⟩
    · go_wp2
      go_ret
      exact ⟨rfl, below_drewN (Below.refl _ _) n⟩
end Go.Proofs.Ytplgdlooglnpmaa
