/-
  Measurements in memory, and the walks of valid and Check of layer 42.
-/
import Derived.Test.YtplgdlooglnpmaaGeoPlain
import Derived.Test.YtplgdlooglnpmaaShelf
import Derived.WalkKit
import Derived.WalkSpells
import Derived.IntWalk
import Derived.Lib.Hide
import Derived.BigQuiet
import Derived.Deep.QuietTactic
import Derived.Deep.LoopGhost
import Derived.LoopTactic
import Derived.Deep.Cut
namespace Go.Proofs.Ytplgdlooglnpmaa
set_option linter.unusedVariables false
open Go.RowKit

theorem ret_int {k : IntKind} {a b : Int} (h : a = b) : Ending.returned (.int k a) = .returned (.int k b) := by rw [h]
theorem ret_b {a b : Bool} (h : a = b) : Ending.returned (.bool a) = .returned (.bool b) := by rw [h]
theorem below_drewN {B : Nat} {a w : World} (h : Below B a w) (n : Nat) : Below B a (w.drewN n) := ⟨h.os, h.tape, h.output, h.size, h.block⟩
theorem quiet_left {P : Program} {f : FuncId} {args : Array Value} {w : World} {n : Nat} {v : Value}
    (h : Calls P f args (w.drewN n) fun e w' => e = .returned v ∧ w.drewN n = w') : Calls P f args (w.drewN n) fun e w'' => e = .returned v ∧ ∃ m, w'' = w.drewN m :=
  h.mono fun _ _ ⟨he, hm⟩ => ⟨he, n, hm.symm⟩
theorem quiet_add_left {P : Program} {f : FuncId} {args : Array Value} {w : World} {a n : Nat} {v : Value}
    (h : Calls P f args (w.drewN (a + n)) fun e w' => e = .returned v ∧ w.drewN (a + n) = w') :
    Calls P f args (w.drewN (a + n)) fun e w'' => e = .returned v ∧ ∃ m, w'' = w.drewN (a + m) :=
  h.mono fun _ _ ⟨he, hm⟩ => ⟨he, n, hm.symm⟩
def ms0 : Ms := ⟨0, 0, 0, 0, 0, 0⟩
def nth (l : List Ms) (i : Nat) : Ms := l.getD i ms0
theorem nth_mem {l : List Ms} {i : Nat} (h : i < l.length) : nth l i ∈ l := by
  unfold nth
  rw [List.getD_eq_getElem?_getD, List.getElem?_eq_getElem h]
  exact List.getElem_mem h
theorem nth_eq {l : List Ms} {i : Nat} (h : i < l.length) : nth l i = l[i] := by
  unfold nth
  rw [List.getD_eq_getElem?_getD, List.getElem?_eq_getElem h]
  rfl
theorem take_nth {l : List Ms} {i : Nat} (h : i < l.length) : l.take (i + 1) = l.take i ++ [nth l i] := by
  rw [List.take_succ_eq_append_getElem h, nth_eq h]
/-- measurements lie in block b from cell o on -/
structure MsAt (l : List Ms) (b o : Nat) (w : World) : Prop where
  lt : b < w.heap.size
  c0 : ∀ i, i < l.length → w.cell? ⟨b, o + i * 6, none⟩ = some (.int .i64 (nth l i).s)
  c1 : ∀ i, i < l.length → w.cell? ⟨b, o + i * 6 + 1, none⟩ = some (.int .i64 (nth l i).a)
  c2 : ∀ i, i < l.length → w.cell? ⟨b, o + i * 6 + 2, none⟩ = some (.int .i64 (nth l i).b)
  c3 : ∀ i, i < l.length → w.cell? ⟨b, o + i * 6 + 3, none⟩ = some (.int .i64 (nth l i).z)
  c4 : ∀ i, i < l.length → w.cell? ⟨b, o + i * 6 + 4, none⟩ = some (.int .i64 (nth l i).d)
  c5 : ∀ i, i < l.length → w.cell? ⟨b, o + i * 6 + 5, none⟩ = some (.int .i64 (nth l i).w)
theorem MsAt.keep {l : List Ms} {b o B : Nat} {w w' : World} (h : MsAt l b o w) (hb : Below B w w') (hB : b < B) : MsAt l b o w' :=
  ⟨Nat.lt_of_lt_of_le h.lt hb.size, fun i hi => (hb.cell (p := ⟨b, o + i * 6, none⟩) hB).trans (h.c0 i hi), fun i hi => (hb.cell (p := ⟨b, o + i * 6 + 1, none⟩) hB).trans (h.c1 i hi), fun i hi => (hb.cell (p := ⟨b, o + i * 6 + 2, none⟩) hB).trans (h.c2 i hi), fun i hi => (hb.cell (p := ⟨b, o + i * 6 + 3, none⟩) hB).trans (h.c3 i hi), fun i hi => (hb.cell (p := ⟨b, o + i * 6 + 4, none⟩) hB).trans (h.c4 i hi), fun i hi => (hb.cell (p := ⟨b, o + i * 6 + 5, none⟩) hB).trans (h.c5 i hi)⟩
theorem MsAt.below {l : List Ms} {b o : Nat} {w w' : World} (h : MsAt l b o w) (hb : Below w.heap.size w w') : MsAt l b o w' := h.keep hb h.lt
theorem MsAt.take {l : List Ms} {b o : Nat} {w : World} (h : MsAt l b o w) (k : Nat) : MsAt (l.take k) b o w := by
  have e : ∀ i, i < (l.take k).length → i < l.length ∧ nth (l.take k) i = nth l i := fun i hi => by
    rw [List.length_take] at hi
    refine ⟨by omega, ?_⟩
    unfold nth
    rw [List.getD_eq_getElem?_getD, List.getD_eq_getElem?_getD, List.getElem?_take, if_pos (by omega)]
  exact ⟨h.lt, fun i hi => by rw [(e i hi).2]; exact h.c0 i (e i hi).1, fun i hi => by rw [(e i hi).2]; exact h.c1 i (e i hi).1, fun i hi => by rw [(e i hi).2]; exact h.c2 i (e i hi).1, fun i hi => by rw [(e i hi).2]; exact h.c3 i (e i hi).1, fun i hi => by rw [(e i hi).2]; exact h.c4 i (e i hi).1, fun i hi => by rw [(e i hi).2]; exact h.c5 i (e i hi).1⟩
/-- a slice that holds measurements -/
def LstAt (l : List Ms) (v : Value) (w : World) : Prop := (v = .slice none 0 0 ∧ l = []) ∨ ∃ b o cap, v = .slice (some ⟨b, o, none⟩) l.length cap ∧ l.length ≤ cap ∧ cap ≤ 9223372036854775807 ∧ MsAt l b o w
theorem LstAt.below {l : List Ms} {v : Value} {w w' : World} (h : LstAt l v w) (hb : Below w.heap.size w w') : LstAt l v w' := by
  rcases h with h | ⟨b, o, cap, h1, h2, h3, h4⟩
  · exact .inl h
  · exact .inr ⟨b, o, cap, h1, h2, h3, h4.below hb⟩
def okF (s a b z d t : Int) : Bool := decide (1 ≤ s ∧ s ≤ 8 ∧ -256 ≤ a ∧ a ≤ 256 ∧ -256 ≤ b ∧ b ≤ 256 ∧ (a ≠ 0 ∨ b ≠ 0) ∧ -4294967296 ≤ z ∧ z ≤ 4294967296 ∧ 0 ≤ d ∧ d ≤ 4294967296 ∧ 1 ≤ t ∧ t ≤ 16)
def okM (m : Ms) : Bool := okF m.s m.a m.b m.z m.d m.w
structure OkM (m : Ms) : Prop where
  s0 : 1 ≤ m.s
  s1 : m.s ≤ 8
  a0 : -256 ≤ m.a
  a1 : m.a ≤ 256
  b0 : -256 ≤ m.b
  b1 : m.b ≤ 256
  nz : m.a ≠ 0 ∨ m.b ≠ 0
  z0 : -4294967296 ≤ m.z
  z1 : m.z ≤ 4294967296
  d0 : 0 ≤ m.d
  d1 : m.d ≤ 4294967296
  w0 : 1 ≤ m.w
  w1 : m.w ≤ 16
theorem okM_iff {m : Ms} : okM m = true ↔ OkM m := by
  unfold okM okF
  rw [decide_eq_true_iff]
  constructor
  · rintro ⟨h0, h1, h2, h3, h4, h5, h6, h7, h8, h9, h10, h11, h12⟩
    exact ⟨h0, h1, h2, h3, h4, h5, h6, h7, h8, h9, h10, h11, h12⟩
  · rintro ⟨h0, h1, h2, h3, h4, h5, h6, h7, h8, h9, h10, h11, h12⟩
    exact ⟨h0, h1, h2, h3, h4, h5, h6, h7, h8, h9, h10, h11, h12⟩
def chkL (l : List Ms) : Int := if 16 < l.length then 3 else if l.all okM = true then 0 else 1
theorem chkL_ok {l : List Ms} (h : chkL l = 0) : l.length ≤ 16 ∧ ∀ m ∈ l, OkM m := by
  unfold chkL at h
  split at h
  · cases h
  · split at h
    · rename_i h1 h2
      exact ⟨by omega, fun m hm => okM_iff.1 (List.all_eq_true.1 h2 m hm)⟩
    · cases h
theorem chkL_of {l : List Ms} (h : l.length ≤ 16) (g : ∀ m ∈ l, OkM m) : chkL l = 0 := by
  unfold chkL
  rw [if_neg (by omega), if_pos (List.all_eq_true.2 fun m hm => okM_iff.2 (g m hm))]
theorem chkL_cases (l : List Ms) : chkL l = 0 ∨ chkL l = 1 ∨ chkL l = 3 := by
  unfold chkL
  split
  · exact .inr (.inr rfl)
  · split
    · exact .inl rfl
    · exact .inr (.inl rfl)
set_option maxHeartbeats 20000000 in
theorem valid_any (s a b z d t : Int) (w : World) : Calls Try.prog 34 #[.agg #[.int .i64 s, .int .i64 a, .int .i64 b, .int .i64 z, .int .i64 d, .int .i64 t]] w fun e w' => e = .returned (.bool (okF s a b z d t)) ∧ Below w.heap.size w w' := by
  by_cases q0 : 1 ≤ s
  · have g0 : decide (1 ≤ s) = true := by simpa using q0
    by_cases q1 : s ≤ 8
    · have g1 : decide (s ≤ 8) = true := by simpa using q1
      by_cases q2 : -256 ≤ a
      · have g2 : decide (-256 ≤ a) = true := by simpa using q2
        by_cases q3 : a ≤ 256
        · have g3 : decide (a ≤ 256) = true := by simpa using q3
          by_cases q4 : -256 ≤ b
          · have g4 : decide (-256 ≤ b) = true := by simpa using q4
            by_cases q5 : b ≤ 256
            · have g5 : decide (b ≤ 256) = true := by simpa using q5
              by_cases ha : a = 0
              · have ga : (a != 0) = false := by simpa using ha
                by_cases hb : b = 0
                · have gb : (b != 0) = false := by simpa using hb
                  have E := Lib.hid (show okF s a b z d t = false from decide_eq_false (fun h => by omega))
                  clear q0 q1 q2 q3 q4 q5 ha hb
                  go_enter Try.func34, Try.ntmps34
                  go_upto_region 1 with (fail)
                  simp only [List.append_eq, List.cons_append, List.nil_append]
                  go_wp2
                  go_ret
                  exact ⟨ret_b E.out.symm, (Below.refl _ _).alloc (Nat.le_refl _) _⟩
                · have gb : (b != 0) = true := by simpa using hb
                  by_cases qp0 : -4294967296 ≤ z
                  · have gp0 : decide (-4294967296 ≤ z) = true := by simpa using qp0
                    by_cases qp1 : z ≤ 4294967296
                    · have gp1 : decide (z ≤ 4294967296) = true := by simpa using qp1
                      by_cases qp2 : 0 ≤ d
                      · have gp2 : decide (0 ≤ d) = true := by simpa using qp2
                        by_cases qp3 : d ≤ 4294967296
                        · have gp3 : decide (d ≤ 4294967296) = true := by simpa using qp3
                          by_cases qp4 : 1 ≤ t
                          · have gp4 : decide (1 ≤ t) = true := by simpa using qp4
                            by_cases qp5 : t ≤ 16
                            · have gp5 : decide (t ≤ 16) = true := by simpa using qp5
                              have E := Lib.hid (show okF s a b z d t = true from decide_eq_true (by omega))
                              clear q0 q1 q2 q3 q4 q5 qp0 qp1 qp2 qp3 qp4 qp5 ha hb
                              go_enter Try.func34, Try.ntmps34
                              go_upto_region 1 with (fail)
                              simp only [List.append_eq, List.cons_append, List.nil_append]
                              go_wp2
                              go_ret
                              exact ⟨ret_b E.out.symm, (Below.refl _ _).alloc (Nat.le_refl _) _⟩
                            · have gp5 : decide (t ≤ 16) = false := by simpa using qp5
                              have E := Lib.hid (show okF s a b z d t = false from decide_eq_false (fun h => by omega))
                              clear q0 q1 q2 q3 q4 q5 qp0 qp1 qp2 qp3 qp4 qp5 ha hb
                              go_enter Try.func34, Try.ntmps34
                              go_upto_region 1 with (fail)
                              simp only [List.append_eq, List.cons_append, List.nil_append]
                              go_wp2
                              go_ret
                              exact ⟨ret_b E.out.symm, (Below.refl _ _).alloc (Nat.le_refl _) _⟩
                          · have gp4 : decide (1 ≤ t) = false := by simpa using qp4
                            have E := Lib.hid (show okF s a b z d t = false from decide_eq_false (fun h => by omega))
                            clear q0 q1 q2 q3 q4 q5 qp0 qp1 qp2 qp3 qp4 ha hb
                            go_enter Try.func34, Try.ntmps34
                            go_upto_region 1 with (fail)
                            simp only [List.append_eq, List.cons_append, List.nil_append]
                            go_wp2
                            go_ret
                            exact ⟨ret_b E.out.symm, (Below.refl _ _).alloc (Nat.le_refl _) _⟩
                        · have gp3 : decide (d ≤ 4294967296) = false := by simpa using qp3
                          have E := Lib.hid (show okF s a b z d t = false from decide_eq_false (fun h => by omega))
                          clear q0 q1 q2 q3 q4 q5 qp0 qp1 qp2 qp3 ha hb
                          go_enter Try.func34, Try.ntmps34
                          go_upto_region 1 with (fail)
                          simp only [List.append_eq, List.cons_append, List.nil_append]
                          go_wp2
                          go_ret
                          exact ⟨ret_b E.out.symm, (Below.refl _ _).alloc (Nat.le_refl _) _⟩
                      · have gp2 : decide (0 ≤ d) = false := by simpa using qp2
                        have E := Lib.hid (show okF s a b z d t = false from decide_eq_false (fun h => by omega))
                        clear q0 q1 q2 q3 q4 q5 qp0 qp1 qp2 ha hb
                        go_enter Try.func34, Try.ntmps34
                        go_upto_region 1 with (fail)
                        simp only [List.append_eq, List.cons_append, List.nil_append]
                        go_wp2
                        go_ret
                        exact ⟨ret_b E.out.symm, (Below.refl _ _).alloc (Nat.le_refl _) _⟩
                    · have gp1 : decide (z ≤ 4294967296) = false := by simpa using qp1
                      have E := Lib.hid (show okF s a b z d t = false from decide_eq_false (fun h => by omega))
                      clear q0 q1 q2 q3 q4 q5 qp0 qp1 ha hb
                      go_enter Try.func34, Try.ntmps34
                      go_upto_region 1 with (fail)
                      simp only [List.append_eq, List.cons_append, List.nil_append]
                      go_wp2
                      go_ret
                      exact ⟨ret_b E.out.symm, (Below.refl _ _).alloc (Nat.le_refl _) _⟩
                  · have gp0 : decide (-4294967296 ≤ z) = false := by simpa using qp0
                    have E := Lib.hid (show okF s a b z d t = false from decide_eq_false (fun h => by omega))
                    clear q0 q1 q2 q3 q4 q5 qp0 ha hb
                    go_enter Try.func34, Try.ntmps34
                    go_upto_region 1 with (fail)
                    simp only [List.append_eq, List.cons_append, List.nil_append]
                    go_wp2
                    go_ret
                    exact ⟨ret_b E.out.symm, (Below.refl _ _).alloc (Nat.le_refl _) _⟩
              · have ga : (a != 0) = true := by simpa using ha
                by_cases qp0 : -4294967296 ≤ z
                · have gp0 : decide (-4294967296 ≤ z) = true := by simpa using qp0
                  by_cases qp1 : z ≤ 4294967296
                  · have gp1 : decide (z ≤ 4294967296) = true := by simpa using qp1
                    by_cases qp2 : 0 ≤ d
                    · have gp2 : decide (0 ≤ d) = true := by simpa using qp2
                      by_cases qp3 : d ≤ 4294967296
                      · have gp3 : decide (d ≤ 4294967296) = true := by simpa using qp3
                        by_cases qp4 : 1 ≤ t
                        · have gp4 : decide (1 ≤ t) = true := by simpa using qp4
                          by_cases qp5 : t ≤ 16
                          · have gp5 : decide (t ≤ 16) = true := by simpa using qp5
                            have E := Lib.hid (show okF s a b z d t = true from decide_eq_true (by omega))
                            clear q0 q1 q2 q3 q4 q5 qp0 qp1 qp2 qp3 qp4 qp5 ha
                            go_enter Try.func34, Try.ntmps34
                            go_upto_region 1 with (fail)
                            simp only [List.append_eq, List.cons_append, List.nil_append]
                            go_wp2
                            go_ret
                            exact ⟨ret_b E.out.symm, (Below.refl _ _).alloc (Nat.le_refl _) _⟩
                          · have gp5 : decide (t ≤ 16) = false := by simpa using qp5
                            have E := Lib.hid (show okF s a b z d t = false from decide_eq_false (fun h => by omega))
                            clear q0 q1 q2 q3 q4 q5 qp0 qp1 qp2 qp3 qp4 qp5 ha
                            go_enter Try.func34, Try.ntmps34
                            go_upto_region 1 with (fail)
                            simp only [List.append_eq, List.cons_append, List.nil_append]
                            go_wp2
                            go_ret
                            exact ⟨ret_b E.out.symm, (Below.refl _ _).alloc (Nat.le_refl _) _⟩
                        · have gp4 : decide (1 ≤ t) = false := by simpa using qp4
                          have E := Lib.hid (show okF s a b z d t = false from decide_eq_false (fun h => by omega))
                          clear q0 q1 q2 q3 q4 q5 qp0 qp1 qp2 qp3 qp4 ha
                          go_enter Try.func34, Try.ntmps34
                          go_upto_region 1 with (fail)
                          simp only [List.append_eq, List.cons_append, List.nil_append]
                          go_wp2
                          go_ret
                          exact ⟨ret_b E.out.symm, (Below.refl _ _).alloc (Nat.le_refl _) _⟩
                      · have gp3 : decide (d ≤ 4294967296) = false := by simpa using qp3
                        have E := Lib.hid (show okF s a b z d t = false from decide_eq_false (fun h => by omega))
                        clear q0 q1 q2 q3 q4 q5 qp0 qp1 qp2 qp3 ha
                        go_enter Try.func34, Try.ntmps34
                        go_upto_region 1 with (fail)
                        simp only [List.append_eq, List.cons_append, List.nil_append]
                        go_wp2
                        go_ret
                        exact ⟨ret_b E.out.symm, (Below.refl _ _).alloc (Nat.le_refl _) _⟩
                    · have gp2 : decide (0 ≤ d) = false := by simpa using qp2
                      have E := Lib.hid (show okF s a b z d t = false from decide_eq_false (fun h => by omega))
                      clear q0 q1 q2 q3 q4 q5 qp0 qp1 qp2 ha
                      go_enter Try.func34, Try.ntmps34
                      go_upto_region 1 with (fail)
                      simp only [List.append_eq, List.cons_append, List.nil_append]
                      go_wp2
                      go_ret
                      exact ⟨ret_b E.out.symm, (Below.refl _ _).alloc (Nat.le_refl _) _⟩
                  · have gp1 : decide (z ≤ 4294967296) = false := by simpa using qp1
                    have E := Lib.hid (show okF s a b z d t = false from decide_eq_false (fun h => by omega))
                    clear q0 q1 q2 q3 q4 q5 qp0 qp1 ha
                    go_enter Try.func34, Try.ntmps34
                    go_upto_region 1 with (fail)
                    simp only [List.append_eq, List.cons_append, List.nil_append]
                    go_wp2
                    go_ret
                    exact ⟨ret_b E.out.symm, (Below.refl _ _).alloc (Nat.le_refl _) _⟩
                · have gp0 : decide (-4294967296 ≤ z) = false := by simpa using qp0
                  have E := Lib.hid (show okF s a b z d t = false from decide_eq_false (fun h => by omega))
                  clear q0 q1 q2 q3 q4 q5 qp0 ha
                  go_enter Try.func34, Try.ntmps34
                  go_upto_region 1 with (fail)
                  simp only [List.append_eq, List.cons_append, List.nil_append]
                  go_wp2
                  go_ret
                  exact ⟨ret_b E.out.symm, (Below.refl _ _).alloc (Nat.le_refl _) _⟩
            · have g5 : decide (b ≤ 256) = false := by simpa using q5
              have E := Lib.hid (show okF s a b z d t = false from decide_eq_false (fun h => by omega))
              clear q0 q1 q2 q3 q4 q5
              go_enter Try.func34, Try.ntmps34
              go_upto_region 1 with (fail)
              simp only [List.append_eq, List.cons_append, List.nil_append]
              go_wp2
              go_ret
              exact ⟨ret_b E.out.symm, (Below.refl _ _).alloc (Nat.le_refl _) _⟩
          · have g4 : decide (-256 ≤ b) = false := by simpa using q4
            have E := Lib.hid (show okF s a b z d t = false from decide_eq_false (fun h => by omega))
            clear q0 q1 q2 q3 q4
            go_enter Try.func34, Try.ntmps34
            go_upto_region 1 with (fail)
            simp only [List.append_eq, List.cons_append, List.nil_append]
            go_wp2
            go_ret
            exact ⟨ret_b E.out.symm, (Below.refl _ _).alloc (Nat.le_refl _) _⟩
        · have g3 : decide (a ≤ 256) = false := by simpa using q3
          have E := Lib.hid (show okF s a b z d t = false from decide_eq_false (fun h => by omega))
          clear q0 q1 q2 q3
          go_enter Try.func34, Try.ntmps34
          go_upto_region 1 with (fail)
          simp only [List.append_eq, List.cons_append, List.nil_append]
          go_wp2
          go_ret
          exact ⟨ret_b E.out.symm, (Below.refl _ _).alloc (Nat.le_refl _) _⟩
      · have g2 : decide (-256 ≤ a) = false := by simpa using q2
        have E := Lib.hid (show okF s a b z d t = false from decide_eq_false (fun h => by omega))
        clear q0 q1 q2
        go_enter Try.func34, Try.ntmps34
        go_upto_region 1 with (fail)
        simp only [List.append_eq, List.cons_append, List.nil_append]
        go_wp2
        go_ret
        exact ⟨ret_b E.out.symm, (Below.refl _ _).alloc (Nat.le_refl _) _⟩
    · have g1 : decide (s ≤ 8) = false := by simpa using q1
      have E := Lib.hid (show okF s a b z d t = false from decide_eq_false (fun h => by omega))
      clear q0 q1
      go_enter Try.func34, Try.ntmps34
      go_upto_region 1 with (fail)
      simp only [List.append_eq, List.cons_append, List.nil_append]
      go_wp2
      go_ret
      exact ⟨ret_b E.out.symm, (Below.refl _ _).alloc (Nat.le_refl _) _⟩
  · have g0 : decide (1 ≤ s) = false := by simpa using q0
    have E := Lib.hid (show okF s a b z d t = false from decide_eq_false (fun h => by omega))
    clear q0
    go_enter Try.func34, Try.ntmps34
    go_upto_region 1 with (fail)
    simp only [List.append_eq, List.cons_append, List.nil_append]
    go_wp2
    go_ret
    exact ⟨ret_b E.out.symm, (Below.refl _ _).alloc (Nat.le_refl _) _⟩
def ChkRcheck (l : List Ms) (w : World) (v : Value) (wr : World) : Prop := ∃ k : Nat, v = .int .i64 k ∧ k ≤ l.length ∧ Hid (∀ i, i < k → okM (nth l i) = true) ∧ Below w.heap.size w wr
set_option maxHeartbeats 1000000 in
theorem check_some (l : List Ms) (b o cap : Nat) (w : World) (h : MsAt l b o w) (hc : l.length ≤ cap) (hm : cap ≤ 9223372036854775807) :
    Calls Try.prog 58 #[.slice (some ⟨b, o, none⟩) l.length cap] w fun e w' => e = .returned (.int .i64 (chkL l)) ∧ Below w.heap.size w w' := by
  have H := Lib.hid h
  have hlt := h.lt
  clear h
  by_cases h16 : 16 < l.length
  · have g : decide (16 < l.length) = true := by simpa using h16
    have g' : decide (16 < (l.length : Int)) = true := by simp; omega
    have E := Lib.hid (show chkL l = 3 by unfold chkL; rw [if_pos h16])
    clear h16
    go_enter Try.func58, Try.ntmps58
    go_wp2
    go_ret
    exact ⟨ret_int E.out.symm, Below.refl _ _⟩
  · have g : decide (16 < l.length) = false := by simpa using h16
    have g' : decide (16 < (l.length : Int)) = false := by simp; omega
    have E0 := Lib.hid (show chkL l = if l.all okM = true then 0 else 1 by unfold chkL; rw [if_neg h16])
    go_enter Try.func58, Try.ntmps58
    go_wp2
    go_loopw [10] (ChkRcheck l w) (fun i _ => l.length - (intOf i).toNat)
    case atStart => exact ⟨0, rfl, Nat.zero_le _, Lib.hid fun i hi => absurd hi (by omega), Below.refl _ _⟩
    case round =>
      obtain ⟨k, rfl, hk, hok, hbr⟩ := hrel
      have HB := Lib.hid hbr
      by_cases q : k < l.length
      · have q' : decide (k < l.length) = true := by simpa using q
        have M := H.out.keep hbr hlt
        have c0 := M.c0 k q
        have c1 := M.c1 k q
        have c2 := M.c2 k q
        have c3 := M.c3 k q
        have c4 := M.c4 k q
        have c5 := M.c5 k q
        have V := Lib.hid fun w => valid_any (nth l k).s (nth l k).a (nth l k).b (nth l k).z (nth l k).d (nth l k).w w
        have EV := Lib.hid (show okM (nth l k) = okF (nth l k).s (nth l k).a (nth l k).b (nth l k).z (nth l k).d (nth l k).w from rfl)
        have MEM := Lib.hid (nth_mem q)
        clear M hbr
        generalize okF (nth l k).s (nth l k).a (nth l k).b (nth l k).z (nth l k).d (nth l k).w = v at *
        cases v with
        | true =>
          go_wp2_with (go_at_call 34; refine (V.out _).mono ?_; rintro e w2 ⟨rfl, hb2⟩)
          go_roundw
          case rel =>
            refine ⟨k + 1, by go_num, by omega, Lib.hid fun i hi => ?_, HB.out.trans (((Below.refl _ _).alloc (Nat.le_refl _) _).trans (hb2.mono (by simp)) |>.mono HB.out.size)⟩
            by_cases e : i = k
            · rw [e]; exact EV.out
            · exact hok.out i (by omega)
          case measure => simp [intOf]; omega
        | false =>
          have EE := Lib.hid (show chkL l = 1 by rw [E0.out, if_neg]; intro h; have := List.all_eq_true.1 h _ MEM.out; rw [EV.out] at this; cases this)
          go_wp2_with (go_at_call 34; refine (V.out _).mono ?_; rintro e w2 ⟨rfl, hb2⟩)
          go_ret
          exact ⟨ret_int EE.out.symm, HB.out.trans (((Below.refl _ _).alloc (Nat.le_refl _) _).trans (hb2.mono (by simp)) |>.mono HB.out.size)⟩
      · have EE := Lib.hid (show chkL l = 0 by
          rw [E0.out, if_pos]
          refine List.all_eq_true.2 fun m hm => ?_
          obtain ⟨i, hi, rfl⟩ := List.getElem_of_mem hm
          rw [← nth_eq hi]
          exact hok.out i (by omega))
        go_wp2
        go_ret
        exact ⟨ret_int EE.out.symm, HB.out⟩
theorem check_nil (w : World) :
    Calls Try.prog 58 #[.slice none 0 0] w fun e w' => e = .returned (.int .i64 0) ∧ Below w.heap.size w w' := by
  go_enter Try.func58, Try.ntmps58
  go_wp2
  go_loop [10] (fun v => v = .int .i64 0) (fun _ => 0)
  case atStart => rfl
  case round =>
    subst hrel
    go_wp2
    go_ret
    exact ⟨rfl, Below.refl _ _⟩
theorem check_any (l : List Ms) (v : Value) (w : World) (h : LstAt l v w) :
    Calls Try.prog 58 #[v] w fun e w' => e = .returned (.int .i64 (chkL l)) ∧ Below w.heap.size w w' := by
  rcases h with ⟨rfl, rfl⟩ | ⟨b, o, cap, rfl, h2, h3, h4⟩
  · exact check_nil w
  · exact check_some l b o cap w h4 h2 h3
end Go.Proofs.Ytplgdlooglnpmaa
