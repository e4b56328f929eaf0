/-
  The walks of the reference's within, Valid and Check of layer 42.
-/
import Derived.Test.YtplgdlooglnpmaaMeasBase
namespace Go.Proofs.Ytplgdlooglnpmaa
set_option linter.unusedVariables false
open Go.RowKit

def rngB (n lo hi : Int) : Bool := decide (lo ≤ n ∧ n ≤ hi)
theorem within_ref (n lo hi : Int) (w : World) : Calls Try.prog 107 #[.int .i64 n, .int .i64 lo, .int .i64 hi] w fun e w' => e = .returned (.bool (rngB n lo hi)) ∧ w = w' := by
  by_cases h : lo ≤ n
  · have g : decide (lo ≤ n) = true := by simpa using h
    by_cases h' : n ≤ hi
    · have g' : decide (n ≤ hi) = true := by simpa using h'
      have E := Lib.hid (show rngB n lo hi = true from decide_eq_true ⟨h, h'⟩)
      clear h h'
      go_enter Try.func107, Try.ntmps107
      go_wp2
      go_ret
      exact ⟨ret_b E.out.symm, rfl⟩
    · have g' : decide (n ≤ hi) = false := by simpa using h'
      have E := Lib.hid (show rngB n lo hi = false from decide_eq_false fun q => h' q.2)
      clear h h'
      go_enter Try.func107, Try.ntmps107
      go_wp2
      go_ret
      exact ⟨ret_b E.out.symm, rfl⟩
  · have g : decide (lo ≤ n) = false := by simpa using h
    have E := Lib.hid (show rngB n lo hi = false from decide_eq_false fun q => h q.1)
    clear h
    go_enter Try.func107, Try.ntmps107
    go_wp2
    go_ret
    exact ⟨ret_b E.out.symm, rfl⟩
set_option maxHeartbeats 20000000 in
theorem valid_ref (s a b z d t : Int) (w : World) : Calls Try.prog 92 #[.agg #[.int .i64 s, .int .i64 a, .int .i64 b, .int .i64 z, .int .i64 d, .int .i64 t]] w fun e w' => e = .returned (.bool (okF s a b z d t)) ∧ Below w.heap.size w w' := by
  by_cases q0 : 1 ≤ s
  · have g0 : decide (1 ≤ s) = true := by simpa using q0
    by_cases q1 : s ≤ 8
    · have g1 : decide (s ≤ 8) = true := by simpa using q1
      by_cases q2 : -256 ≤ a ∧ a ≤ 256
      · have g2 : rngB a (-256) 256 = true := decide_eq_true q2
        by_cases q3 : -256 ≤ b ∧ b ≤ 256
        · have g3 : rngB b (-256) 256 = true := decide_eq_true q3
          by_cases q4 : a = 0
          · have g4 : (a != 0) = false := by simpa using q4
            by_cases r4 : b = 0
            · have i4 : (b != 0) = false := by simpa using r4
              have E := Lib.hid (show okF s a b z d t = false from decide_eq_false (fun h => by omega))
              clear q0 q1 q2 q3 q4 r4
              go_enter Try.func92, Try.ntmps92
              go_wp2_with (go_at_call 107; refine (within_ref _ _ _ _).mono ?_; rintro e w' ⟨rfl, rfl⟩)
              go_ret
              exact ⟨ret_b E.out.symm, (Below.refl _ _).alloc (Nat.le_refl _) _⟩
            · have i4 : (b != 0) = true := by simpa using r4
              by_cases q5 : -4294967296 ≤ z ∧ z ≤ 4294967296
              · have g5 : rngB z (-4294967296) 4294967296 = true := decide_eq_true q5
                by_cases q6 : 0 ≤ d ∧ d ≤ 4294967296
                · have g6 : rngB d 0 4294967296 = true := decide_eq_true q6
                  by_cases q7 : 1 ≤ t ∧ t ≤ 16
                  · have g7 : rngB t 1 16 = true := decide_eq_true q7
                    have E := Lib.hid (show okF s a b z d t = true from decide_eq_true (by omega))
                    clear q0 q1 q2 q3 q4 r4 q5 q6 q7
                    go_enter Try.func92, Try.ntmps92
                    go_wp2_with (go_at_call 107; refine (within_ref _ _ _ _).mono ?_; rintro e w' ⟨rfl, rfl⟩)
                    go_ret
                    exact ⟨ret_b E.out.symm, (Below.refl _ _).alloc (Nat.le_refl _) _⟩
                  · have g7 : rngB t 1 16 = false := decide_eq_false q7
                    have E := Lib.hid (show okF s a b z d t = false from decide_eq_false (fun h => by omega))
                    clear q0 q1 q2 q3 q4 r4 q5 q6 q7
                    go_enter Try.func92, Try.ntmps92
                    go_wp2_with (go_at_call 107; refine (within_ref _ _ _ _).mono ?_; rintro e w' ⟨rfl, rfl⟩)
                    go_ret
                    exact ⟨ret_b E.out.symm, (Below.refl _ _).alloc (Nat.le_refl _) _⟩
                · have g6 : rngB d 0 4294967296 = false := decide_eq_false q6
                  have E := Lib.hid (show okF s a b z d t = false from decide_eq_false (fun h => by omega))
                  clear q0 q1 q2 q3 q4 r4 q5 q6
                  go_enter Try.func92, Try.ntmps92
                  go_wp2_with (go_at_call 107; refine (within_ref _ _ _ _).mono ?_; rintro e w' ⟨rfl, rfl⟩)
                  go_ret
                  exact ⟨ret_b E.out.symm, (Below.refl _ _).alloc (Nat.le_refl _) _⟩
              · have g5 : rngB z (-4294967296) 4294967296 = false := decide_eq_false q5
                have E := Lib.hid (show okF s a b z d t = false from decide_eq_false (fun h => by omega))
                clear q0 q1 q2 q3 q4 r4 q5
                go_enter Try.func92, Try.ntmps92
                go_wp2_with (go_at_call 107; refine (within_ref _ _ _ _).mono ?_; rintro e w' ⟨rfl, rfl⟩)
                go_ret
                exact ⟨ret_b E.out.symm, (Below.refl _ _).alloc (Nat.le_refl _) _⟩
          · have g4 : (a != 0) = true := by simpa using q4
            by_cases q5 : -4294967296 ≤ z ∧ z ≤ 4294967296
            · have g5 : rngB z (-4294967296) 4294967296 = true := decide_eq_true q5
              by_cases q6 : 0 ≤ d ∧ d ≤ 4294967296
              · have g6 : rngB d 0 4294967296 = true := decide_eq_true q6
                by_cases q7 : 1 ≤ t ∧ t ≤ 16
                · have g7 : rngB t 1 16 = true := decide_eq_true q7
                  have E := Lib.hid (show okF s a b z d t = true from decide_eq_true (by omega))
                  clear q0 q1 q2 q3 q4 q5 q6 q7
                  go_enter Try.func92, Try.ntmps92
                  go_wp2_with (go_at_call 107; refine (within_ref _ _ _ _).mono ?_; rintro e w' ⟨rfl, rfl⟩)
                  go_ret
                  exact ⟨ret_b E.out.symm, (Below.refl _ _).alloc (Nat.le_refl _) _⟩
                · have g7 : rngB t 1 16 = false := decide_eq_false q7
                  have E := Lib.hid (show okF s a b z d t = false from decide_eq_false (fun h => by omega))
                  clear q0 q1 q2 q3 q4 q5 q6 q7
                  go_enter Try.func92, Try.ntmps92
                  go_wp2_with (go_at_call 107; refine (within_ref _ _ _ _).mono ?_; rintro e w' ⟨rfl, rfl⟩)
                  go_ret
                  exact ⟨ret_b E.out.symm, (Below.refl _ _).alloc (Nat.le_refl _) _⟩
              · have g6 : rngB d 0 4294967296 = false := decide_eq_false q6
                have E := Lib.hid (show okF s a b z d t = false from decide_eq_false (fun h => by omega))
                clear q0 q1 q2 q3 q4 q5 q6
                go_enter Try.func92, Try.ntmps92
                go_wp2_with (go_at_call 107; refine (within_ref _ _ _ _).mono ?_; rintro e w' ⟨rfl, rfl⟩)
                go_ret
                exact ⟨ret_b E.out.symm, (Below.refl _ _).alloc (Nat.le_refl _) _⟩
            · have g5 : rngB z (-4294967296) 4294967296 = false := decide_eq_false q5
              have E := Lib.hid (show okF s a b z d t = false from decide_eq_false (fun h => by omega))
              clear q0 q1 q2 q3 q4 q5
              go_enter Try.func92, Try.ntmps92
              go_wp2_with (go_at_call 107; refine (within_ref _ _ _ _).mono ?_; rintro e w' ⟨rfl, rfl⟩)
              go_ret
              exact ⟨ret_b E.out.symm, (Below.refl _ _).alloc (Nat.le_refl _) _⟩
        · have g3 : rngB b (-256) 256 = false := decide_eq_false q3
          have E := Lib.hid (show okF s a b z d t = false from decide_eq_false (fun h => by omega))
          clear q0 q1 q2 q3
          go_enter Try.func92, Try.ntmps92
          go_wp2_with (go_at_call 107; refine (within_ref _ _ _ _).mono ?_; rintro e w' ⟨rfl, rfl⟩)
          go_ret
          exact ⟨ret_b E.out.symm, (Below.refl _ _).alloc (Nat.le_refl _) _⟩
      · have g2 : rngB a (-256) 256 = false := decide_eq_false q2
        have E := Lib.hid (show okF s a b z d t = false from decide_eq_false (fun h => by omega))
        clear q0 q1 q2
        go_enter Try.func92, Try.ntmps92
        go_wp2_with (go_at_call 107; refine (within_ref _ _ _ _).mono ?_; rintro e w' ⟨rfl, rfl⟩)
        go_ret
        exact ⟨ret_b E.out.symm, (Below.refl _ _).alloc (Nat.le_refl _) _⟩
    · have g1 : decide (s ≤ 8) = false := by simpa using q1
      have E := Lib.hid (show okF s a b z d t = false from decide_eq_false (fun h => by omega))
      clear q0 q1
      go_enter Try.func92, Try.ntmps92
      go_wp2_with (go_at_call 107; refine (within_ref _ _ _ _).mono ?_; rintro e w' ⟨rfl, rfl⟩)
      go_ret
      exact ⟨ret_b E.out.symm, (Below.refl _ _).alloc (Nat.le_refl _) _⟩
  · have g0 : decide (1 ≤ s) = false := by simpa using q0
    have E := Lib.hid (show okF s a b z d t = false from decide_eq_false (fun h => by omega))
    clear q0
    go_enter Try.func92, Try.ntmps92
    go_wp2_with (go_at_call 107; refine (within_ref _ _ _ _).mono ?_; rintro e w' ⟨rfl, rfl⟩)
    go_ret
    exact ⟨ret_b E.out.symm, (Below.refl _ _).alloc (Nat.le_refl _) _⟩
def ChkRref (l : List Ms) (w : World) (v : Value) (wr : World) : Prop := ∃ k : Nat, v = .int .i64 k ∧ k ≤ l.length ∧ Hid (∀ i, i < k → okM (nth l i) = true) ∧ Below w.heap.size w wr
set_option maxHeartbeats 1000000 in
theorem chkref_some (l : List Ms) (b o cap : Nat) (w : World) (h : MsAt l b o w) (hc : l.length ≤ cap) (hm : cap ≤ 9223372036854775807) :
    Calls Try.prog 72 #[.slice (some ⟨b, o, none⟩) l.length cap] w fun e w' => e = .returned (.int .i64 (chkL l)) ∧ Below w.heap.size w w' := by
  have H := Lib.hid h
  have hlt := h.lt
  clear h
  by_cases h16 : 16 < l.length
  · have g : decide (16 < l.length) = true := by simpa using h16
    have g' : decide (16 < (l.length : Int)) = true := by simp; omega
    have E := Lib.hid (show chkL l = 3 by unfold chkL; rw [if_pos h16])
    clear h16
    go_enter Try.func72, Try.ntmps72
    go_wp2
    go_ret
    exact ⟨ret_int E.out.symm, Below.refl _ _⟩
  · have g : decide (16 < l.length) = false := by simpa using h16
    have g' : decide (16 < (l.length : Int)) = false := by simp; omega
    have E0 := Lib.hid (show chkL l = if l.all okM = true then 0 else 1 by unfold chkL; rw [if_neg h16])
    go_enter Try.func72, Try.ntmps72
    go_wp2
    go_loopw [10] (ChkRref l w) (fun i _ => l.length - (intOf i).toNat)
    case atStart => exact ⟨0, rfl, Nat.zero_le _, Lib.hid fun i hi => absurd hi (by omega), Below.refl _ _⟩
    case round =>
      obtain ⟨k, rfl, hk, hok, hbr⟩ := hrel
      have HB := Lib.hid hbr
      by_cases q : k < l.length
      · have q' : decide (k < l.length) = true := by simpa using q
        have M := H.out.keep hbr hlt
        have c0 := M.c0 k q
        have c1 := M.c1 k q
        have c2 := M.c2 k q
        have c3 := M.c3 k q
        have c4 := M.c4 k q
        have c5 := M.c5 k q
        have V := Lib.hid fun w => valid_ref (nth l k).s (nth l k).a (nth l k).b (nth l k).z (nth l k).d (nth l k).w w
        have EV := Lib.hid (show okM (nth l k) = okF (nth l k).s (nth l k).a (nth l k).b (nth l k).z (nth l k).d (nth l k).w from rfl)
        have MEM := Lib.hid (nth_mem q)
        clear M hbr
        generalize okF (nth l k).s (nth l k).a (nth l k).b (nth l k).z (nth l k).d (nth l k).w = v at *
        cases v with
        | true =>
          go_wp2_with (go_at_call 92; refine (V.out _).mono ?_; rintro e w2 ⟨rfl, hb2⟩)
          go_roundw
          case rel =>
            refine ⟨k + 1, by go_num, by omega, Lib.hid fun i hi => ?_, HB.out.trans (((Below.refl _ _).alloc (Nat.le_refl _) _).trans (hb2.mono (by simp)) |>.mono HB.out.size)⟩
            by_cases e : i = k
            · rw [e]; exact EV.out
            · exact hok.out i (by omega)
          case measure => simp [intOf]; omega
        | false =>
          have EE := Lib.hid (show chkL l = 1 by rw [E0.out, if_neg]; intro h; have := List.all_eq_true.1 h _ MEM.out; rw [EV.out] at this; cases this)
          go_wp2_with (go_at_call 92; refine (V.out _).mono ?_; rintro e w2 ⟨rfl, hb2⟩)
          go_ret
          exact ⟨ret_int EE.out.symm, HB.out.trans (((Below.refl _ _).alloc (Nat.le_refl _) _).trans (hb2.mono (by simp)) |>.mono HB.out.size)⟩
      · have EE := Lib.hid (show chkL l = 0 by
          rw [E0.out, if_pos]
          refine List.all_eq_true.2 fun m hm => ?_
          obtain ⟨i, hi, rfl⟩ := List.getElem_of_mem hm
          rw [← nth_eq hi]
          exact hok.out i (by omega))
        go_wp2
        go_ret
        exact ⟨ret_int EE.out.symm, HB.out⟩
theorem chkref_nil (w : World) :
    Calls Try.prog 72 #[.slice none 0 0] w fun e w' => e = .returned (.int .i64 0) ∧ Below w.heap.size w w' := by
  go_enter Try.func72, Try.ntmps72
  go_wp2
  go_loop [10] (fun v => v = .int .i64 0) (fun _ => 0)
  case atStart => rfl
  case round =>
    subst hrel
    go_wp2
    go_ret
    exact ⟨rfl, Below.refl _ _⟩
theorem chkref_any (l : List Ms) (v : Value) (w : World) (h : LstAt l v w) :
    Calls Try.prog 72 #[v] w fun e w' => e = .returned (.int .i64 (chkL l)) ∧ Below w.heap.size w w' := by
  rcases h with ⟨rfl, rfl⟩ | ⟨b, o, cap, rfl, h2, h3, h4⟩
  · exact chkref_nil w
  · exact chkref_some l b o cap w h4 h2 h3
end Go.Proofs.Ytplgdlooglnpmaa
