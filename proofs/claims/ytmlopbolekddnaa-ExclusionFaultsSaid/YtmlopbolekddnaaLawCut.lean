/-
  The walk of the laws' cut.
-/
import Derived.Test.YtmlopbolekddnaaExcAwake
namespace Go.Proofs.Ytmlopbolekddnaa
set_option linter.unusedVariables false
open Go.RowKit

def cutL (l : List Ms) : List Ms := l.take 17
theorem cut_len (l : List Ms) : (cutL l).length ≤ 17 := by unfold cutL; rw [List.length_take]; omega
set_option maxHeartbeats 1000000 in
theorem cut_any (l : List Ms) (v : Value) (w : World) (h : LstAt l v w) :
    Calls Try.prog 14 #[v] w fun e w' => (∃ p cap, e = .returned (.slice p (cutL l).length cap) ∧ LstAt (cutL l) (.slice p (cutL l).length cap) w) ∧ w = w' := by
  rcases h with ⟨rfl, rfl⟩ | ⟨b, o, cap, rfl, h2, h3, h4⟩
  · go_enter Try.func14, Try.ntmps14
    go_wp2
    go_ret
    exact ⟨⟨none, 0, rfl, .inl ⟨rfl, rfl⟩⟩, rfl⟩
  · have H := Lib.hid h4
    clear h4
    by_cases q : l.length ≤ 17
    · have m : min (l.length : Int) 17 = l.length := by omega
      have e : cutL l = l := by unfold cutL; rw [List.take_of_length_le q]
      have E := Lib.hid e
      clear e
      go_enter Try.func14, Try.ntmps14
      go_wp2
      go_ret
      rw [E.out]
      exact ⟨⟨_, _, rfl, .inr ⟨b, o, cap, rfl, h2, h3, H.out⟩⟩, rfl⟩
    · have m : min (l.length : Int) 17 = 17 := by omega
      have e : (cutL l).length = 17 := by unfold cutL; rw [List.length_take]; omega
      have E := Lib.hid e
      have q' : 17 ≤ cap := by omega
      clear e
      go_enter Try.func14, Try.ntmps14
      go_wp2
      go_ret
      rw [E.out]
      exact ⟨⟨_, _, rfl, .inr ⟨b, o, cap, by rw [E.out], by rw [E.out]; exact q', h3, H.out.take 17⟩⟩, rfl⟩
end Go.Proofs.Ytmlopbolekddnaa
