/-
  The walks of the reference's crossing and meets of layer 44.
-/
import Derived.Test.YtmlopbolekddnaaExcTwo
import Derived.Test.YtmlopbolekddnaaExcFull
import Derived.StillTactics
namespace Go.Proofs.Ytmlopbolekddnaa
set_option linter.unusedVariables false
open Go.RowKit

theorem below_drew {B : Nat} {a w : World} (h : Below B a w) : Below B a w.drew := ⟨h.os, h.tape, h.output, h.size, h.block⟩
theorem crossB_at (m n : Ms) : crossB (m, n) = decide (detM m n ≠ 0) := by
  cases h : crossB (m, n)
  · exact (decide_eq_false fun q => by rw [crossB_iff.2 q] at h; cases h).symm
  · exact (decide_eq_true (crossB_iff.1 h)).symm
set_option maxHeartbeats 8000000 in
set_option maxRecDepth 100000 in
theorem crossing_ref (m n : Ms) (c e : Int) (w : World) (hm : EdM m) (hn : EdM n) (hc : SmC c) (he : SmC e) :
    Calls Try.prog 64 #[.agg #[.int .i64 m.s, .int .i64 m.a, .int .i64 m.b, .int .i64 m.z, .int .i64 m.d, .int .i64 m.w], .int .i64 c, .agg #[.int .i64 n.s, .int .i64 n.a, .int .i64 n.b, .int .i64 n.z, .int .i64 n.d, .int .i64 n.w], .int .i64 e] w
      fun r w' => r = .returned (.tuple #[.agg #[.int .i64 (crossC m n c e).x, .int .i64 (crossC m n c e).y, .int .i64 (crossC m n c e).d], .bool (crossB (m, n))]) ∧ Below w.heap.size w w' := by
  have ECB := crossB_at m n
  have p1 := mul_abs (X := 12884901888) (Y := 256) hc.lo hc.hi hn.b0 hn.b1
  have p2 := mul_abs (X := 12884901888) (Y := 256) he.lo he.hi hm.b0 hm.b1
  have p3 := mul_abs (X := 256) (Y := 12884901888) hm.a0 hm.a1 he.lo he.hi
  have p4 := mul_abs (X := 256) (Y := 12884901888) hn.a0 hn.a1 hc.lo hc.hi
  have p5 := mul_abs (X := 256) (Y := 256) hm.a0 hm.a1 hn.b0 hn.b1
  have p6 := mul_abs (X := 256) (Y := 256) hn.a0 hn.a1 hm.b0 hm.b1
  have ED : detM m n = m.a * n.b - n.a * m.b := rfl
  have EC : crossC m n c e = if detM m n < 0 then ⟨-(c * n.b - e * m.b), -(m.a * e - n.a * c), -detM m n⟩ else ⟨c * n.b - e * m.b, m.a * e - n.a * c, detM m n⟩ := rfl
  rw [ED] at EC ECB
  clear ED hm hn hc he
  generalize crossC m n c e = C at *
  obtain ⟨ms, a, b, mz, md, mw⟩ := m
  obtain ⟨ns, a', b', nz, nd, nw⟩ := n
  simp only at p1 p2 p3 p4 p5 p6 EC ECB ⊢
  obtain ⟨p10, p11⟩ := p1
  obtain ⟨p20, p21⟩ := p2
  obtain ⟨p30, p31⟩ := p3
  obtain ⟨p40, p41⟩ := p4
  obtain ⟨p50, p51⟩ := p5
  obtain ⟨p60, p61⟩ := p6
  have s1 : IntKind.i64.wrap (c * b') = c * b' := IntWalk.i64_in _ (by omega)
  have s2 : IntKind.i64.wrap (e * b) = e * b := IntWalk.i64_in _ (by omega)
  have s3 : IntKind.i64.wrap (a * e) = a * e := IntWalk.i64_in _ (by omega)
  have s4 : IntKind.i64.wrap (a' * c) = a' * c := IntWalk.i64_in _ (by omega)
  have s5 : IntKind.i64.wrap (c * b' - e * b) = c * b' - e * b := IntWalk.i64_in _ (by omega)
  have s6 : IntKind.i64.wrap (a * e - a' * c) = a * e - a' * c := IntWalk.i64_in _ (by omega)
  by_cases hz : a * b' - a' * b = 0
  · have g : decide (a * b' - a' * b < 0) = false := by simpa using (show ¬ a * b' - a' * b < 0 by omega)
    have g2 : decide (a' * b < a * b') = false := by simp; omega
    have EE := Lib.hid (EC.trans (if_neg (by omega)))
    have E2 := Lib.hid (ECB.trans (decide_eq_false (by omega)))
    clear hz EC ECB
    go_enter Try.func64, Try.ntmps64
    go_wp2
    go_region
    go_wp2
    refine bodyPost_ret (v := .tuple #[.agg #[.int .i64 (c * b' - e * b), .int .i64 (a * e - a' * c), .int .i64 (a * b' - a' * b)], .bool false]) (by simp [results, Try.results64, go_sem]) rfl ⟨by rw [EE.out, E2.out], ?_⟩
    exact below_drew (((((Below.refl _ _).alloc (Nat.le_refl _) _).alloc (by simp) _).alloc (by simp; try omega) _).alloc (by simp; try omega) _)
  · by_cases hn : a * b' - a' * b < 0
    · have g : decide (a * b' - a' * b < 0) = true := by simpa using hn
      have g2 : decide (0 < -(a * b' - a' * b)) = true := by simp; omega
      have EE := Lib.hid (EC.trans (if_pos hn))
      have E2 := Lib.hid (ECB.trans (decide_eq_true (by omega)))
      clear hz EC ECB hn
      go_enter Try.func64, Try.ntmps64
      go_wp2
      go_region
      go_wp2
      refine bodyPost_ret (v := .tuple #[.agg #[.int .i64 (-(c * b' - e * b)), .int .i64 (-(a * e - a' * c)), .int .i64 (-(a * b' - a' * b))], .bool true]) (by simp [results, Try.results64, go_sem]) rfl ⟨by rw [EE.out, E2.out], ?_⟩
      exact below_drew (((((Below.refl _ _).alloc (Nat.le_refl _) _).alloc (by simp) _).alloc (by simp; try omega) _).alloc (by simp; try omega) _)
    · have g : decide (a * b' - a' * b < 0) = false := by simpa using (show ¬ a * b' - a' * b < 0 by omega)
      have g2 : decide (a' * b < a * b') = true := by simp; omega
      have EE := Lib.hid (EC.trans (if_neg hn))
      have E2 := Lib.hid (ECB.trans (decide_eq_true (by omega)))
      clear hz EC ECB hn
      go_enter Try.func64, Try.ntmps64
      go_wp2
      go_region
      go_wp2
      refine bodyPost_ret (v := .tuple #[.agg #[.int .i64 (c * b' - e * b), .int .i64 (a * e - a' * c), .int .i64 (a * b' - a' * b)], .bool true]) (by simp [results, Try.results64, go_sem]) rfl ⟨by rw [EE.out, E2.out], ?_⟩
      exact below_drew (((((Below.refl _ _).alloc (Nat.le_refl _) _).alloc (by simp) _).alloc (by simp; try omega) _).alloc (by simp; try omega) _)
set_option maxHeartbeats 8000000 in
theorem meets_ref (m : Ms) (p : Cr) (w : World) (ed : EdM m) (hp : SmP p) :
    Calls Try.prog 65 #[.agg #[.int .i64 m.s, .int .i64 m.a, .int .i64 m.b, .int .i64 m.z, .int .i64 m.d, .int .i64 m.w], .agg #[.int .i64 p.x, .int .i64 p.y, .int .i64 p.d]] w fun e w' => e = .returned (.bool (inB p m)) ∧ Below w.heap.size w w' := by
  have EV : inB p m = decide (absI (m.a * p.x + m.b * p.y - m.z * p.d) ≤ m.d * p.d) := rfl
  obtain ⟨p10, p11⟩ := mul_abs (X := 256) (Y := 6597069766656) ed.a0 ed.a1 hp.x0 hp.x1
  obtain ⟨p20, p21⟩ := mul_abs (X := 256) (Y := 6597069766656) ed.b0 ed.b1 hp.y0 hp.y1
  have d0 := hp.d0
  have d1 := hp.d1
  obtain ⟨p30, p31⟩ := mul_abs (X := 4294967296) (Y := 131072) ed.z0 ed.z1 (by omega) d1
  have dd0 := ed.d0
  have dd1 := ed.d1
  obtain ⟨p40, p41⟩ := mul_abs (X := 8589934592) (Y := 131072) (x := m.d) (by omega) dd1 (by omega) d1
  clear ed hp
  obtain ⟨ms, ma, mb, mz, md, mw⟩ := m
  obtain ⟨px, py, pd⟩ := p
  simp only at *
  have s1 : IntKind.i64.wrap (ma * px) = ma * px := IntWalk.i64_in _ (by omega)
  have s2 : IntKind.i64.wrap (mb * py) = mb * py := IntWalk.i64_in _ (by omega)
  have s3 : IntKind.i64.wrap (mz * pd) = mz * pd := IntWalk.i64_in _ (by omega)
  have s4 : IntKind.i64.wrap (md * pd) = md * pd := IntWalk.i64_in _ (by omega)
  have s5 : IntKind.i64.wrap (ma * px + mb * py) = ma * px + mb * py := IntWalk.i64_in _ (by omega)
  have s6 : IntKind.i64.wrap (ma * px + mb * py - mz * pd) = ma * px + mb * py - mz * pd := IntWalk.i64_in _ (by omega)
  have s7 : IntKind.i64.wrap (-(ma * px + mb * py - mz * pd)) = -(ma * px + mb * py - mz * pd) := IntWalk.i64_in _ (by omega)
  have bb := (((Below.refl w.heap.size w).alloc (Nat.le_refl _) (.cells #[.int .i64 ms, .int .i64 ma, .int .i64 mb, .int .i64 mz, .int .i64 md, .int .i64 mw] 50)).alloc (by simp) (.cells #[.int .i64 px, .int .i64 py, .int .i64 pd] 98))
  have HBB := Lib.hid bb
  clear bb
  by_cases h1 : ma * px + mb * py - mz * pd ≤ md * pd
  · have g1 : decide (ma * px + mb * py - mz * pd ≤ md * pd) = true := by simpa using h1
    by_cases h2 : -(ma * px + mb * py - mz * pd) ≤ md * pd
    · have g2 : decide (-(ma * px + mb * py - mz * pd) ≤ md * pd) = true := by simpa using h2
      have E := Lib.hid (EV.trans (decide_eq_true (by unfold absI; split <;> omega)))
      clear EV h1 h2 p10 p11 p20 p21 p30 p31 p40 p41
      go_enter Try.func65, Try.ntmps65
      go_wp2
      go_ret
      exact ⟨ret_b E.out.symm, HBB.out⟩
    · have g2 : decide (-(ma * px + mb * py - mz * pd) ≤ md * pd) = false := by simpa using h2
      have E := Lib.hid (EV.trans (decide_eq_false (by unfold absI; split <;> omega)))
      clear EV h1 h2 p10 p11 p20 p21 p30 p31 p40 p41
      go_enter Try.func65, Try.ntmps65
      go_wp2
      go_ret
      exact ⟨ret_b E.out.symm, HBB.out⟩
  · have g1 : decide (ma * px + mb * py - mz * pd ≤ md * pd) = false := by simpa using h1
    have E := Lib.hid (EV.trans (decide_eq_false (by unfold absI; split <;> omega)))
    clear EV h1 p10 p11 p20 p21 p30 p31 p40 p41
    go_enter Try.func65, Try.ntmps65
    go_wp2
    go_ret
    exact ⟨ret_b E.out.symm, HBB.out⟩
end Go.Proofs.Ytmlopbolekddnaa
