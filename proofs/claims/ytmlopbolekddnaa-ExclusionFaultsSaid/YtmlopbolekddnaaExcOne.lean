/-
  The walks of layer 44's edges, meet and holds, and of fixed.Abs.
-/
import Derived.Test.YtmlopbolekddnaaMeasBase
namespace Go.Proofs.Ytmlopbolekddnaa
set_option linter.unusedVariables false
open Go.RowKit

def absI (x : Int) : Int := if x < 0 then -x else x
theorem abs_any (x : Int) (w : World) (_h0 : -9223372036854775807 ≤ x) (_h1 : x ≤ 9223372036854775807) :
    Calls Try.prog 66 #[.int .i64 x] w fun e w' => e = .returned (.int .i64 (absI x)) ∧ w = w' := by
  have h2 : (x == -9223372036854775808) = false := by simp; omega
  go_enter Try.func66, Try.ntmps66
  go_wp2
  all_goals go_ret
  · exact ⟨ret_int (by unfold absI; rw [if_pos (by assumption)]), rfl⟩
  · exact ⟨ret_int (by unfold absI; rw [if_neg (by omega)]), rfl⟩
theorem mul_abs {x y X Y : Int} (h1 : -X ≤ x) (h2 : x ≤ X) (h3 : -Y ≤ y) (h4 : y ≤ Y) : -(X * Y) ≤ x * y ∧ x * y ≤ X * Y := by
  have a := Int.mul_nonneg (show 0 ≤ X - x by omega) (show 0 ≤ Y + y by omega)
  have b := Int.mul_nonneg (show 0 ≤ X + x by omega) (show 0 ≤ Y - y by omega)
  have c := Int.mul_nonneg (show 0 ≤ X - x by omega) (show 0 ≤ Y - y by omega)
  have d := Int.mul_nonneg (show 0 ≤ X + x by omega) (show 0 ≤ Y + y by omega)
  have e1 : (X - x) * (Y + y) + (X + x) * (Y - y) = 2 * (X * Y) - 2 * (x * y) := by grind
  have e2 : (X - x) * (Y - y) + (X + x) * (Y + y) = 2 * (X * Y) + 2 * (x * y) := by grind
  omega
/-- a measurement whose numbers are small enough for the corners -/
structure EdM (m : Ms) : Prop where
  a0 : -256 ≤ m.a
  a1 : m.a ≤ 256
  b0 : -256 ≤ m.b
  b1 : m.b ≤ 256
  z0 : -4294967296 ≤ m.z
  z1 : m.z ≤ 4294967296
  d0 : 0 ≤ m.d
  d1 : m.d ≤ 8589934592
theorem OkM.ed {m : Ms} (h : OkM m) : EdM m := ⟨h.a0, h.a1, h.b0, h.b1, h.z0, h.z1, h.d0, by have := h.d1; omega⟩
structure SmC (c : Int) : Prop where
  lo : -12884901888 ≤ c
  hi : c ≤ 12884901888
theorem edge_sm {m : Ms} (h : EdM m) (s : Bool) : SmC (edgeC m s) := by
  have := h.z0
  have := h.z1
  have := h.d0
  have := h.d1
  unfold edgeC
  cases s
  · exact ⟨by show -12884901888 ≤ m.z - m.d; omega, by show m.z - m.d ≤ 12884901888; omega⟩
  · exact ⟨by show -12884901888 ≤ m.z + m.d; omega, by show m.z + m.d ≤ 12884901888; omega⟩
/-- a corner whose numbers are small enough -/
structure SmP (p : Cr) : Prop where
  x0 : -6597069766656 ≤ p.x
  x1 : p.x ≤ 6597069766656
  y0 : -6597069766656 ≤ p.y
  y1 : p.y ≤ 6597069766656
  d0 : 0 ≤ p.d
  d1 : p.d ≤ 131072
theorem cross_sm {m n : Ms} (hm : EdM m) (hn : EdM n) {c e : Int} (hc : SmC c) (he : SmC e) : SmP (crossC m n c e) := by
  have p1 := mul_abs (X := 12884901888) (Y := 256) hc.lo hc.hi hn.b0 hn.b1
  have p2 := mul_abs (X := 12884901888) (Y := 256) he.lo he.hi hm.b0 hm.b1
  have p3 := mul_abs (X := 256) (Y := 12884901888) hm.a0 hm.a1 he.lo he.hi
  have p4 := mul_abs (X := 256) (Y := 12884901888) hn.a0 hn.a1 hc.lo hc.hi
  have p5 := mul_abs (X := 256) (Y := 256) hm.a0 hm.a1 hn.b0 hn.b1
  have p6 := mul_abs (X := 256) (Y := 256) hn.a0 hn.a1 hm.b0 hm.b1
  unfold crossC detM
  split
  · constructor <;> simp only <;> omega
  · constructor <;> simp only <;> omega
theorem edges_any (m : Ms) (w : World) (h : EdM m) :
    Calls Try.prog 54 #[.agg #[.int .i64 m.s, .int .i64 m.a, .int .i64 m.b, .int .i64 m.z, .int .i64 m.d, .int .i64 m.w]] w
      fun e w' => e = .returned (.agg #[.int .i64 m.a, .int .i64 m.b, .int .i64 (edgeC m false), .int .i64 m.a, .int .i64 m.b, .int .i64 (edgeC m true)]) ∧ Below w.heap.size w w' := by
  have z0 := h.z0
  have z1 := h.z1
  have d0 := h.d0
  have d1 := h.d1
  have E1 := Lib.hid (show edgeC m false = m.z - m.d from rfl)
  have E2 := Lib.hid (show edgeC m true = m.z + m.d from rfl)
  clear h
  generalize edgeC m false = c at *
  generalize edgeC m true = e at *
  obtain ⟨s, a, b, z, d, t⟩ := m
  simp only at z0 z1 d0 d1 E1 E2 ⊢
  go_enter Try.func54, Try.ntmps54
  go_wp2
  refine bodyPost_ret (v := .agg #[.int .i64 a, .int .i64 b, .int .i64 (z - d), .int .i64 a, .int .i64 b, .int .i64 (z + d)]) (by simp [results, Try.results54, go_sem]) rfl ⟨by rw [E1.out, E2.out], ?_⟩
  exact ((Below.refl w.heap.size w).alloc (by simp) _).alloc (by simp) _
theorem below_set3 {B n : Nat} {w w1 : World} (h : Below B w w1) (hB : B ≤ n) (u v x : Value) : Below B w (((w1.setCell ⟨n, 0, none⟩ u).setCell ⟨n, 1, none⟩ v).setCell ⟨n, 2, none⟩ x) :=
  ((h.setCell (p := ⟨n, 0, none⟩) hB u).setCell (p := ⟨n, 1, none⟩) hB v).setCell (p := ⟨n, 2, none⟩) hB x
/-- what meet gives -/
def meetF (m n : Ms) (c e : Int) : Cr × Bool := if detM m n = 0 then (⟨0, 0, 0⟩, false) else (crossC m n c e, true)
set_option maxHeartbeats 1000000 in
theorem meet_any (m n : Ms) (c e : Int) (w : World) (hm : EdM m) (hn : EdM n) (hc : SmC c) (he : SmC e) :
    Calls Try.prog 55 #[.agg #[.int .i64 m.a, .int .i64 m.b, .int .i64 c], .agg #[.int .i64 n.a, .int .i64 n.b, .int .i64 e]] w
      fun r w' => r = .returned (.tuple #[.agg #[.int .i64 (meetF m n c e).1.x, .int .i64 (meetF m n c e).1.y, .int .i64 (meetF m n c e).1.d], .bool (meetF m n c e).2]) ∧ Below w.heap.size w w' := by
  have p1 := mul_abs (X := 12884901888) (Y := 256) hc.lo hc.hi hn.b0 hn.b1
  have p2 := mul_abs (X := 12884901888) (Y := 256) he.lo he.hi hm.b0 hm.b1
  have p3 := mul_abs (X := 256) (Y := 12884901888) hm.a0 hm.a1 he.lo he.hi
  have p4 := mul_abs (X := 256) (Y := 12884901888) hn.a0 hn.a1 hc.lo hc.hi
  have p5 := mul_abs (X := 256) (Y := 256) hm.a0 hm.a1 hn.b0 hn.b1
  have p6 := mul_abs (X := 256) (Y := 256) hn.a0 hn.a1 hm.b0 hm.b1
  have E0 : meetF m n c e = if detM m n = 0 then (⟨0, 0, 0⟩, false) else (crossC m n c e, true) := rfl
  have ED : detM m n = m.a * n.b - n.a * m.b := rfl
  have EC : crossC m n c e = if detM m n < 0 then ⟨-(c * n.b - e * m.b), -(m.a * e - n.a * c), -detM m n⟩ else ⟨c * n.b - e * m.b, m.a * e - n.a * c, detM m n⟩ := rfl
  rw [ED] at E0 EC
  clear ED hm hn hc he
  generalize crossC m n c e = C at *
  generalize meetF m n c e = M at *
  obtain ⟨ms, a, b, mz, md, mw⟩ := m
  obtain ⟨ns, a', b', nz, nd, nw⟩ := n
  simp only at p1 p2 p3 p4 p5 p6 E0 EC ⊢
  obtain ⟨p10, p11⟩ := p1
  obtain ⟨p20, p21⟩ := p2
  obtain ⟨p30, p31⟩ := p3
  obtain ⟨p40, p41⟩ := p4
  obtain ⟨p50, p51⟩ := p5
  obtain ⟨p60, p61⟩ := p6
  have s1 : IntKind.i64.wrap (c * b') = c * b' := IntWalk.i64_in _ (by omega)
  have s2 : IntKind.i64.wrap (e * b) = e * b := IntWalk.i64_in _ (by omega)
  have s3 : IntKind.i64.wrap (a * e) = a * e := IntWalk.i64_in _ (by omega)
  have s4 : IntKind.i64.wrap (a' * c) = a' * c := IntWalk.i64_in _ (by omega)
  have s5 : IntKind.i64.wrap (c * b' - e * b) = c * b' - e * b := IntWalk.i64_in _ (by omega)
  have s6 : IntKind.i64.wrap (a * e - a' * c) = a * e - a' * c := IntWalk.i64_in _ (by omega)
  by_cases hz : a * b' - a' * b = 0
  · have g : (a * b' - a' * b == 0) = true := by simpa using hz
    have E := Lib.hid (E0.trans (if_pos hz))
    clear hz E0 EC
    go_enter Try.func55, Try.ntmps55
    go_wp2
    go_quiet (fail)
    clear s1 s2 s3 s4 s5 s6
    go_wp2
    refine bodyPost_ret (v := .tuple #[.agg #[.int .i64 0, .int .i64 0, .int .i64 0], .bool false]) (by simp [results, Try.results55, go_sem]) rfl ⟨by rw [E.out], ?_⟩
    exact below_set3 (below_drewN (((Below.refl w.heap.size w).alloc (by simp) _).alloc (by simp) _ |>.alloc (by simp; try omega) _) _) (by omega) _ _ _
  · have g : (a * b' - a' * b == 0) = false := by simpa using hz
    by_cases hn : a * b' - a' * b < 0
    · have g2 : decide (a * b' - a' * b < 0) = true := by simpa using hn
      have E := Lib.hid (E0.trans (if_neg hz))
      have EE := Lib.hid (EC.trans (if_pos hn))
      clear hz E0 EC hn
      go_enter Try.func55, Try.ntmps55
      go_wp2
      go_quiet (fail)
      clear s1 s2 s3 s4 s5 s6
      go_wp2
      refine bodyPost_ret (v := .tuple #[.agg #[.int .i64 (-(c * b' - e * b)), .int .i64 (-(a * e - a' * c)), .int .i64 (-(a * b' - a' * b))], .bool true]) (by simp [results, Try.results55, go_sem]) rfl ⟨by rw [E.out, EE.out], ?_⟩
      exact below_set3 (below_drewN (((Below.refl w.heap.size w).alloc (by simp) _).alloc (by simp) _ |>.alloc (by simp; try omega) _) _) (by omega) _ _ _
    · have g2 : decide (a * b' - a' * b < 0) = false := by simpa using hn
      have E := Lib.hid (E0.trans (if_neg hz))
      have EE := Lib.hid (EC.trans (if_neg hn))
      clear hz E0 EC hn
      go_enter Try.func55, Try.ntmps55
      go_wp2
      go_quiet (fail)
      clear s1 s2 s3 s4 s5 s6
      go_wp2
      refine bodyPost_ret (v := .tuple #[.agg #[.int .i64 (c * b' - e * b), .int .i64 (a * e - a' * c), .int .i64 (a * b' - a' * b)], .bool true]) (by simp [results, Try.results55, go_sem]) rfl ⟨by rw [E.out, EE.out], ?_⟩
      exact below_set3 (below_drewN (((Below.refl w.heap.size w).alloc (by simp) _).alloc (by simp) _ |>.alloc (by simp; try omega) _) _) (by omega) _ _ _
end Go.Proofs.Ytmlopbolekddnaa
