/-
  The walks of layer 29's checks and tables and of layer 30's range check.
-/
import Derived.Test.YtnaokohffelklaaDoorBase30
import Derived.Test.YtnaokohffelklaaDoorSpeedPlain
namespace Go.Proofs.YtnaokohffelklaaDoor
set_option linter.unusedVariables false
open Go.RowKit Sq

theorem ret_b {a b : Bool} (h : a = b) : Ending.returned (.bool a) = .returned (.bool b) := by rw [h]
theorem ret_n {k : IntKind} {a b : Int} (h : a = b) : Ending.returned (.int k a) = .returned (.int k b) := by rw [h]
def outB (alt : Int) : Bool := decide (alt < -200000 ∨ 6000000 < alt)
theorem outside_any (alt : Int) (w : World) :
    Calls Tryd.prog 63 #[.int .i64 alt] w fun e w' => e = .returned (.bool (outB alt)) ∧ w = w' := by
  by_cases h : alt < -200000
  · have E := Lib.hid (show outB alt = true by unfold outB; simp [h])
    have g : decide (alt < -200000) = true := by simpa using h
    clear h
    go_enter Tryd.func63, Tryd.ntmps63
    go_wp2
    go_ret
    exact ⟨ret_b E.out.symm, rfl⟩
  · have E := Lib.hid (show outB alt = decide (6000000 < alt) by unfold outB; simp [h])
    have g : decide (alt < -200000) = false := by simpa using h
    clear h
    go_enter Tryd.func63, Tryd.ntmps63
    go_wp2
    go_ret
    exact ⟨ret_b E.out.symm, rfl⟩
def witB (n most : Int) : Bool := decide (0 ≤ n ∧ n ≤ most)
theorem within_any (n most : Int) (w : World) :
    Calls Tryd.prog 29 #[.int .i64 n, .int .i64 most] w fun e w' => e = .returned (.bool (witB n most)) ∧ w = w' := by
  by_cases h : 0 ≤ n
  · have E := Lib.hid (show witB n most = decide (n ≤ most) by unfold witB; simp [h])
    have g : decide (0 ≤ n) = true := by simpa using h
    clear h
    go_enter Tryd.func29, Tryd.ntmps29
    go_wp2
    go_ret
    exact ⟨ret_b E.out.symm, rfl⟩
  · have E := Lib.hid (show witB n most = false by unfold witB; simp [h])
    have g : decide (0 ≤ n) = false := by simpa using h
    clear h
    go_enter Tryd.func29, Tryd.ntmps29
    go_wp2
    go_ret
    exact ⟨ret_b E.out.symm, rfl⟩
def chkI (alt dev : Int) : Int := if outB alt = true then 2 else if dev < -4000 ∨ 4000 < dev then 1 else 0
theorem check_any (alt dev : Int) (w : World) :
    Calls Tryd.prog 47 #[.int .i64 alt, .int .i64 dev] w fun e w' => e = .returned (.int .i64 (chkI alt dev)) ∧ w = w' := by
  cases ho : outB alt with
  | true =>
    have HO := Lib.hid ho
    have E := Lib.hid (show chkI alt dev = 2 by unfold chkI; simp [ho])
    clear ho
    go_enter Tryd.func47, Tryd.ntmps47
    go_wp2_with (go_at_call 63; refine (outside_any _ _).mono ?_; rw [HO.out]; rintro e w1 ⟨rfl, rfl⟩)
    go_ret
    exact ⟨ret_n E.out.symm, rfl⟩
  | false =>
    have HO := Lib.hid ho
    by_cases h : dev < -4000
    · have E := Lib.hid (show chkI alt dev = 1 by unfold chkI; simp [ho, h])
      have g : decide (dev < -4000) = true := by simpa using h
      clear ho h
      go_enter Tryd.func47, Tryd.ntmps47
      go_wp2_with (go_at_call 63; refine (outside_any _ _).mono ?_; rw [HO.out]; rintro e w1 ⟨rfl, rfl⟩)
      go_ret
      exact ⟨ret_n E.out.symm, rfl⟩
    · by_cases h2 : 4000 < dev
      · have E := Lib.hid (show chkI alt dev = 1 by unfold chkI; simp [ho, h2])
        have g : decide (dev < -4000) = false := by simpa using h
        have g2 : decide (4000 < dev) = true := by simpa using h2
        clear ho h h2
        go_enter Tryd.func47, Tryd.ntmps47
        go_wp2_with (go_at_call 63; refine (outside_any _ _).mono ?_; rw [HO.out]; rintro e w1 ⟨rfl, rfl⟩)
        go_ret
        exact ⟨ret_n E.out.symm, rfl⟩
      · have E := Lib.hid (show chkI alt dev = 0 by unfold chkI; simp [ho, h, h2])
        have g : decide (dev < -4000) = false := by simpa using h
        have g2 : decide (4000 < dev) = false := by simpa using h2
        clear ho h h2
        go_enter Tryd.func47, Tryd.ntmps47
        go_wp2_with (go_at_call 63; refine (outside_any _ _).mono ?_; rw [HO.out]; rintro e w1 ⟨rfl, rfl⟩)
        go_ret
        exact ⟨ret_n E.out.symm, rfl⟩
/-- the cells of a table: altitude and value in turn -/
def tabC (T : List (Int × Int)) : Array Value := (T.flatMap fun r => [Value.int .i64 r.1, Value.int .i64 r.2]).toArray
theorem ratios_any (w : World) :
    Calls Tryd.prog 49 #[] w fun e w' => e = .returned (.slice (some ⟨w.heap.size, 0, none⟩) 14 14) ∧ ∃ t, w' = w.alloc (.cells (tabC ratT) t) := by
  go_enter Tryd.func49, Tryd.ntmps49
  go_wp2
  go_ret
  exact ⟨rfl, _, rfl⟩
theorem temps_any (w : World) :
    Calls Tryd.prog 67 #[] w fun e w' => e = .returned (.slice (some ⟨w.heap.size, 0, none⟩) 4 4) ∧ ∃ t, w' = w.alloc (.cells (tabC tmpT) t) := by
  go_enter Tryd.func67, Tryd.ntmps67
  go_wp2
  go_ret
  exact ⟨rfl, _, rfl⟩
end Go.Proofs.YtnaokohffelklaaDoor
