/-
  The walk of slices.Equal at two slices that hold the same measurements.
-/
import Derived.Test.YtnnafjmfbnnnjaaDoorAwake41
import Derived.Deep.QuietTactic
import Derived.BigQuiet
namespace Go.Proofs.YtnnafjmfbnnnjaaDoor
set_option linter.unusedVariables false
open Go.RowKit Tr Sq

def EqR (w : World) (n : Nat) (i : Value) (w' : World) : Prop := ∃ j d : Nat, j ≤ n ∧ i = .int .i64 j ∧ w' = w.drewN d
theorem eq_nil (w : World) : Calls Tryd.prog 25 #[.slice none 0 0, .slice none 0 0] w fun e w' => e = .returned (.bool true) ∧ Below w.heap.size w w' := by
  go_enter Tryd.func25, Tryd.ntmps25
  go_wp2
  go_loopw [13] (EqR w 0) (fun i _ => 0 - (intOf i).toNat)
  case atStart => exact ⟨0, 0, by omega, rfl, rfl⟩
  case round =>
    obtain ⟨j, d, hj, rfl, rfl⟩ := hrel
    obtain rfl : j = 0 := by omega
    go_wp2
    go_ret
    exact ⟨rfl, below_drewN (Below.refl _ _) _⟩
set_option maxHeartbeats 1000000 in
theorem eq_one (k l : Nat) (m : Ms) (w : World) (p0 : w.cell? ⟨k, 0, none⟩ = some (.int .i64 m.s)) (p1 : w.cell? ⟨k, 1, none⟩ = some (.int .i64 m.a)) (p2 : w.cell? ⟨k, 2, none⟩ = some (.int .i64 m.b)) (p3 : w.cell? ⟨k, 3, none⟩ = some (.int .i64 m.z)) (p4 : w.cell? ⟨k, 4, none⟩ = some (.int .i64 m.d)) (p5 : w.cell? ⟨k, 5, none⟩ = some (.int .i64 m.w))
    (q0 : w.cell? ⟨l, 0, none⟩ = some (.int .i64 m.s)) (q1 : w.cell? ⟨l, 1, none⟩ = some (.int .i64 m.a)) (q2 : w.cell? ⟨l, 2, none⟩ = some (.int .i64 m.b)) (q3 : w.cell? ⟨l, 3, none⟩ = some (.int .i64 m.z)) (q4 : w.cell? ⟨l, 4, none⟩ = some (.int .i64 m.d)) (q5 : w.cell? ⟨l, 5, none⟩ = some (.int .i64 m.w)) :
    Calls Tryd.prog 25 #[.slice (some ⟨k, 0, none⟩) 1 1, .slice (some ⟨l, 0, none⟩) 1 1] w fun e w' => e = .returned (.bool true) ∧ Below w.heap.size w w' := by
  obtain ⟨s, a, b, z, d, wt⟩ := m
  simp only at p0 p1 p2 p3 p4 p5 q0 q1 q2 q3 q4 q5
  go_enter Tryd.func25, Tryd.ntmps25
  go_wp2
  go_loopw [13] (EqR w 1) (fun i _ => 1 - (intOf i).toNat)
  case atStart => exact ⟨0, 0, by omega, rfl, rfl⟩
  case round =>
    obtain ⟨j, d, hj, rfl, rfl⟩ := hrel
    rcases (show j = 0 ∨ j = 1 by omega) with rfl | rfl
    · go_wp2_with fail
      go_quiet (fail)
      go_wp2
      go_roundw
      case rel => exact ⟨1, _, by omega, by go_num, rfl⟩
      case measure => simp [intOf]
    · go_wp2
      go_ret
      exact ⟨rfl, below_drewN (Below.refl _ _) _⟩
set_option maxHeartbeats 2000000 in
theorem eq_two (k l : Nat) (m n : Ms) (w : World) (p0 : w.cell? ⟨k, 0, none⟩ = some (.int .i64 m.s)) (p1 : w.cell? ⟨k, 1, none⟩ = some (.int .i64 m.a)) (p2 : w.cell? ⟨k, 2, none⟩ = some (.int .i64 m.b)) (p3 : w.cell? ⟨k, 3, none⟩ = some (.int .i64 m.z)) (p4 : w.cell? ⟨k, 4, none⟩ = some (.int .i64 m.d)) (p5 : w.cell? ⟨k, 5, none⟩ = some (.int .i64 m.w)) (p6 : w.cell? ⟨k, 6, none⟩ = some (.int .i64 n.s)) (p7 : w.cell? ⟨k, 7, none⟩ = some (.int .i64 n.a)) (p8 : w.cell? ⟨k, 8, none⟩ = some (.int .i64 n.b)) (p9 : w.cell? ⟨k, 9, none⟩ = some (.int .i64 n.z)) (p10 : w.cell? ⟨k, 10, none⟩ = some (.int .i64 n.d)) (p11 : w.cell? ⟨k, 11, none⟩ = some (.int .i64 n.w))
    (q0 : w.cell? ⟨l, 0, none⟩ = some (.int .i64 m.s)) (q1 : w.cell? ⟨l, 1, none⟩ = some (.int .i64 m.a)) (q2 : w.cell? ⟨l, 2, none⟩ = some (.int .i64 m.b)) (q3 : w.cell? ⟨l, 3, none⟩ = some (.int .i64 m.z)) (q4 : w.cell? ⟨l, 4, none⟩ = some (.int .i64 m.d)) (q5 : w.cell? ⟨l, 5, none⟩ = some (.int .i64 m.w)) (q6 : w.cell? ⟨l, 6, none⟩ = some (.int .i64 n.s)) (q7 : w.cell? ⟨l, 7, none⟩ = some (.int .i64 n.a)) (q8 : w.cell? ⟨l, 8, none⟩ = some (.int .i64 n.b)) (q9 : w.cell? ⟨l, 9, none⟩ = some (.int .i64 n.z)) (q10 : w.cell? ⟨l, 10, none⟩ = some (.int .i64 n.d)) (q11 : w.cell? ⟨l, 11, none⟩ = some (.int .i64 n.w)) :
    Calls Tryd.prog 25 #[.slice (some ⟨k, 0, none⟩) 2 2, .slice (some ⟨l, 0, none⟩) 2 2] w fun e w' => e = .returned (.bool true) ∧ Below w.heap.size w w' := by
  obtain ⟨s, a, b, z, d, wt⟩ := m
  obtain ⟨s', a', b', z', d', wt'⟩ := n
  simp only at p0 q0 p1 q1 p2 q2 p3 q3 p4 q4 p5 q5 p6 q6 p7 q7 p8 q8 p9 q9 p10 q10 p11 q11
  go_enter Tryd.func25, Tryd.ntmps25
  go_wp2
  go_loopw [13] (EqR w 2) (fun i _ => 2 - (intOf i).toNat)
  case atStart => exact ⟨0, 0, by omega, rfl, rfl⟩
  case round =>
    obtain ⟨j, d, hj, rfl, rfl⟩ := hrel
    rcases (show j = 0 ∨ j = 1 ∨ j = 2 by omega) with rfl | rfl | rfl
    · go_wp2_with fail
      go_quiet (fail)
      go_wp2
      go_roundw
      case rel => exact ⟨1, _, by omega, by go_num, rfl⟩
      case measure => simp [intOf]
    · go_wp2_with fail
      go_quiet (fail)
      go_wp2
      go_roundw
      case rel => exact ⟨2, _, by omega, by go_num, rfl⟩
      case measure => simp [intOf]
    · go_wp2
      go_ret
      exact ⟨rfl, below_drewN (Below.refl _ _) _⟩
end Go.Proofs.YtnnafjmfbnnnjaaDoor
