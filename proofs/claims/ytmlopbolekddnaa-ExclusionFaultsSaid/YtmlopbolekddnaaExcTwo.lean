/-
  The walks of layer 44's holds, pairs and full.
-/
import Derived.Test.YtmlopbolekddnaaExcOne
namespace Go.Proofs.Ytmlopbolekddnaa
set_option linter.unusedVariables false
open Go.RowKit

def inB (p : Cr) (m : Ms) : Bool := decide (absI (gI m p.x p.y p.d) ≤ m.d * p.d)
theorem inB_iff {p : Cr} {m : Ms} : inB p m = true ↔ In1 m p.x p.y p.d := by
  unfold inB absI
  rw [decide_eq_true_iff]
  constructor
  · intro h
    split at h
    · exact ⟨by omega, by omega⟩
    · exact ⟨by omega, by omega⟩
  · rintro ⟨h1, h2⟩
    split <;> omega
def holdsB (l : List Ms) (p : Cr) : Bool := l.all (inB p)
theorem holdsB_iff {l : List Ms} {p : Cr} : holdsB l p = true ↔ In l p.x p.y p.d := by
  unfold holdsB
  rw [List.all_eq_true]
  exact ⟨fun h m hm => inB_iff.1 (h m hm), fun h m hm => inB_iff.2 (h m hm)⟩
def HoldR (l : List Ms) (p : Cr) (w : World) (v : Value) (wr : World) : Prop := ∃ k : Nat, v = .int .i64 k ∧ k ≤ l.length ∧ Hid (∀ i, i < k → inB p (nth l i) = true) ∧ Below w.heap.size w wr
set_option maxHeartbeats 2000000 in
theorem holds_some (l : List Ms) (p : Cr) (b o cap : Nat) (w : World) (h : MsAt l b o w) (hc : l.length ≤ cap) (hm : cap ≤ 9223372036854775807) (he : ∀ m ∈ l, EdM m) (hp : SmP p) :
    Calls Try.prog 56 #[.slice (some ⟨b, o, none⟩) l.length cap, .agg #[.int .i64 p.x, .int .i64 p.y, .int .i64 p.d]] w fun e w' => e = .returned (.bool (holdsB l p)) ∧ Below w.heap.size w w' := by
  have H := Lib.hid h
  have hlt := h.lt
  have HE := Lib.hid he
  have HP := Lib.hid hp
  clear h he hp
  go_enter Try.func56, Try.ntmps56
  go_wp2
  generalize hw0 : w.alloc (.cells #[.int .i64 p.x, .int .i64 p.y, .int .i64 p.d] 92) = w0 at *
  have y0 : w0.cell? ⟨w.heap.size, 0, none⟩ = some (.int .i64 p.x) := by rw [← hw0, World.cell?_alloc_at _ _ _ _ rfl]; rfl
  have y1 : w0.cell? ⟨w.heap.size, 1, none⟩ = some (.int .i64 p.y) := by rw [← hw0, World.cell?_alloc_at _ _ _ _ rfl]; rfl
  have y2 : w0.cell? ⟨w.heap.size, 2, none⟩ = some (.int .i64 p.d) := by rw [← hw0, World.cell?_alloc_at _ _ _ _ rfl]; rfl
  have hs0 : w.heap.size < w0.heap.size := by rw [← hw0]; simp
  have hb0 : Below w.heap.size w w0 := by rw [← hw0]; exact (Below.refl _ _).alloc (Nat.le_refl _) _
  have Y0 := Lib.hid y0
  have Y1 := Lib.hid y1
  have Y2 := Lib.hid y2
  have HB0 := Lib.hid hb0
  clear hw0 y0 y1 y2 hb0
  go_loopw [9] (HoldR l p w0) (fun i _ => l.length - (intOf i).toNat)
  case atStart => exact ⟨0, rfl, Nat.zero_le _, Lib.hid fun i hi => absurd hi (by omega), Below.refl _ _⟩
  case round =>
    obtain ⟨k, rfl, hk, hok, hbr⟩ := hrel
    have HB := Lib.hid hbr
    by_cases q : k < l.length
    · have q' : decide (k < l.length) = true := by simpa using q
      have M := H.out.keep (HB0.out.trans (hbr.mono HB0.out.size)) hlt
      have x0 := (hbr.cell (p := ⟨w.heap.size, 0, none⟩) hs0).trans Y0.out
      have x1 := (hbr.cell (p := ⟨w.heap.size, 1, none⟩) hs0).trans Y1.out
      have x2 := (hbr.cell (p := ⟨w.heap.size, 2, none⟩) hs0).trans Y2.out
      have hsr : w.heap.size < wr.heap.size := Nat.lt_of_lt_of_le hs0 hbr.size
      have c0 := M.c0 k q
      have c1 := M.c1 k q
      have c2 := M.c2 k q
      have c3 := M.c3 k q
      have c4 := M.c4 k q
      have c5 := M.c5 k q
      have ed := HE.out _ (nth_mem q)
      have hp := HP.out
      have EV := Lib.hid (show inB p (nth l k) = decide (absI ((nth l k).a * p.x + (nth l k).b * p.y - (nth l k).z * p.d) ≤ (nth l k).d * p.d) from rfl)
      have MEM := Lib.hid (nth_mem q)
      clear M hbr
      obtain ⟨p10, p11⟩ := mul_abs (X := 256) (Y := 6597069766656) ed.a0 ed.a1 hp.x0 hp.x1
      obtain ⟨p20, p21⟩ := mul_abs (X := 256) (Y := 6597069766656) ed.b0 ed.b1 hp.y0 hp.y1
      have d0 := hp.d0
      have d1 := hp.d1
      obtain ⟨p30, p31⟩ := mul_abs (X := 4294967296) (Y := 131072) ed.z0 ed.z1 (by omega) d1
      have dd0 := ed.d0
      have dd1 := ed.d1
      obtain ⟨p40, p41⟩ := mul_abs (X := 8589934592) (Y := 131072) (x := (nth l k).d) (by omega) dd1 (by omega) d1
      clear ed hp
      generalize hN : nth l k = m at *
      have HN := Lib.hid hN
      clear hN
      obtain ⟨ms, ma, mb, mz, md, mw⟩ := m
      obtain ⟨px, py, pd⟩ := p
      simp only at *
      have s1 : IntKind.i64.wrap (ma * px) = ma * px := IntWalk.i64_in _ (by omega)
      have s2 : IntKind.i64.wrap (mb * py) = mb * py := IntWalk.i64_in _ (by omega)
      have s3 : IntKind.i64.wrap (mz * pd) = mz * pd := IntWalk.i64_in _ (by omega)
      have s4 : IntKind.i64.wrap (md * pd) = md * pd := IntWalk.i64_in _ (by omega)
      have s5 : IntKind.i64.wrap (ma * px + mb * py) = ma * px + mb * py := IntWalk.i64_in _ (by omega)
      have s6 : IntKind.i64.wrap (ma * px + mb * py - mz * pd) = ma * px + mb * py - mz * pd := IntWalk.i64_in _ (by omega)
      have AB := Lib.hid fun w => abs_any (ma * px + mb * py - mz * pd) w (by omega) (by omega)
      generalize absI (ma * px + mb * py - mz * pd) = v at *
      by_cases hv : v ≤ md * pd
      · have g : decide (md * pd < v) = false := by simp; omega
        have EE := Lib.hid (EV.out.trans (decide_eq_true hv))
        clear hv
        go_wp2_with fail
        go_quiet ((go_at_call 66; first | exact quiet_left (AB.out _) | exact quiet_add_left (AB.out _)))
        clear s1 s2 s3 s4 s5 s6
        go_wp2
        go_roundw
        case rel =>
          refine ⟨k + 1, by go_num, by omega, Lib.hid fun i hi => ?_, HB.out.trans ((below_drewN ((Below.refl _ _).alloc (Nat.le_refl _) _) _).mono HB.out.size)⟩
          by_cases e : i = k
          · rw [e, HN.out]; exact EE.out
          · exact hok.out i (by omega)
        case measure => simp [intOf]; omega
      · have g : decide (md * pd < v) = true := by simp; omega
        have EE := Lib.hid (EV.out.trans (decide_eq_false hv))
        clear hv
        go_wp2_with fail
        go_quiet ((go_at_call 66; first | exact quiet_left (AB.out _) | exact quiet_add_left (AB.out _)))
        clear s1 s2 s3 s4 s5 s6
        go_wp2
        go_ret
        refine ⟨ret_b ?_, HB0.out.trans ((HB.out.trans ((below_drewN ((Below.refl _ _).alloc (Nat.le_refl _) _) _).mono HB.out.size)).mono HB0.out.size)⟩
        cases hx : holdsB l ⟨px, py, pd⟩
        · rfl
        · unfold holdsB at hx
          have := List.all_eq_true.1 hx _ MEM.out
          rw [EE.out] at this
          cases this
    · go_wp2
      go_ret
      refine ⟨ret_b ?_, HB0.out.trans (HB.out.mono HB0.out.size)⟩
      symm
      unfold holdsB
      refine List.all_eq_true.2 fun m hm => ?_
      obtain ⟨i, hi, rfl⟩ := List.getElem_of_mem hm
      rw [← nth_eq hi]
      exact hok.out i (by omega)
theorem holds_nil (p : Cr) (w : World) :
    Calls Try.prog 56 #[.slice none 0 0, .agg #[.int .i64 p.x, .int .i64 p.y, .int .i64 p.d]] w fun e w' => e = .returned (.bool true) ∧ Below w.heap.size w w' := by
  go_enter Try.func56, Try.ntmps56
  go_wp2
  go_loop [9] (fun v => v = .int .i64 0) (fun _ => 0)
  case atStart => rfl
  case round =>
    subst hrel
    go_wp2
    go_ret
    exact ⟨rfl, (Below.refl _ _).alloc (Nat.le_refl _) _⟩
theorem holds_any (l : List Ms) (p : Cr) (v : Value) (w : World) (h : LstAt l v w) (he : ∀ m ∈ l, EdM m) (hp : SmP p) :
    Calls Try.prog 56 #[v, .agg #[.int .i64 p.x, .int .i64 p.y, .int .i64 p.d]] w fun e w' => e = .returned (.bool (holdsB l p)) ∧ Below w.heap.size w w' := by
  rcases h with ⟨rfl, rfl⟩ | ⟨b, o, cap, rfl, h2, h3, h4⟩
  · exact holds_nil p w
  · exact holds_some l p b o cap w h4 h2 h3 he hp
end Go.Proofs.Ytmlopbolekddnaa
