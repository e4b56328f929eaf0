/-
  The walks of plane.Valid, lsq.Holds and the laws' all.
-/
import Derived.Test.YtmlopbolekddnaaLawCut
import Derived.Lib.QuietBelow
namespace Go.Proofs.Ytmlopbolekddnaa
set_option linter.unusedVariables false
open Go.RowKit

def vldP (x y : Int) : Bool := decide (-2000000 ≤ x ∧ x ≤ 2000000 ∧ -2000000 ≤ y ∧ y ≤ 2000000)
theorem vldP_iff {x y : Int} : vldP x y = true ↔ -2000000 ≤ x ∧ x ≤ 2000000 ∧ -2000000 ≤ y ∧ y ≤ 2000000 := by unfold vldP; rw [decide_eq_true_iff]
set_option maxHeartbeats 4000000 in
theorem vldP_any (x y : Int) (w : World) : Calls Try.prog 26 #[.agg #[.int .i64 x, .int .i64 y]] w fun e w' => e = .returned (.bool (vldP x y)) ∧ Below w.heap.size w w' := by
  have key : (decide (-2000000 ≤ x) = false ∧ vldP x y = false) ∨ (decide (-2000000 ≤ x) = true ∧ decide (x ≤ 2000000) = false ∧ vldP x y = false) ∨ (decide (-2000000 ≤ x) = true ∧ decide (x ≤ 2000000) = true ∧ decide (-2000000 ≤ y) = false ∧ vldP x y = false) ∨ (decide (-2000000 ≤ x) = true ∧ decide (x ≤ 2000000) = true ∧ decide (-2000000 ≤ y) = true ∧ decide (y ≤ 2000000) = false ∧ vldP x y = false) ∨ (decide (-2000000 ≤ x) = true ∧ decide (x ≤ 2000000) = true ∧ decide (-2000000 ≤ y) = true ∧ decide (y ≤ 2000000) = true ∧ vldP x y = true) := by
    unfold vldP
    simp only [decide_eq_true_eq, decide_eq_false_iff_not]
    omega
  rcases key with ⟨g0, E⟩ | ⟨g0, g1, E⟩ | ⟨g0, g1, g2, E⟩ | ⟨g0, g1, g2, g3, E⟩ | ⟨g0, g1, g2, g3, E⟩
  all_goals
    rw [E]
    clear E
    go_enter Try.func26, Try.ntmps26
    go_wp2
    go_ret
    exact ⟨rfl, (Below.refl _ _).alloc (Nat.le_refl _) _⟩
/-- how far a measurement is from holding -/
def missI (m : Ms) (x y : Int) : Int := m.a * x + m.b * y - m.z
theorem miss_fit {m : Ms} {x y : Int} (h : OkM m) (hp : vldP x y = true) : -512000000 ≤ m.a * x ∧ m.a * x ≤ 512000000 ∧ -512000000 ≤ m.b * y ∧ m.b * y ≤ 512000000 := by
  obtain ⟨x0, x1, y0, y1⟩ := vldP_iff.1 hp
  have a := mul_abs (X := 256) (Y := 2000000) h.a0 h.a1 x0 x1
  have b := mul_abs (X := 256) (Y := 2000000) h.b0 h.b1 y0 y1
  omega
set_option maxHeartbeats 4000000 in
theorem miss_any (m : Ms) (x y : Int) (w : World) (h : OkM m) (hp : vldP x y = true) :
    Calls Try.prog 67 #[.agg #[.int .i64 m.s, .int .i64 m.a, .int .i64 m.b, .int .i64 m.z, .int .i64 m.d, .int .i64 m.w], .agg #[.int .i64 x, .int .i64 y]] w fun e w' => e = .returned (.int .i64 (missI m x y)) ∧ Below w.heap.size w w' := by
  obtain ⟨f0, f1, f2, f3⟩ := miss_fit h hp
  have z0 := h.z0
  have z1 := h.z1
  have s0 : IntKind.i64.wrap (m.a * x) = m.a * x := IntWalk.i64_in _ (by omega)
  have s1 : IntKind.i64.wrap (m.b * y) = m.b * y := IntWalk.i64_in _ (by omega)
  have s2 : IntKind.i64.wrap (m.a * x + m.b * y) = m.a * x + m.b * y := IntWalk.i64_in _ (by omega)
  have s3 : IntKind.i64.wrap (m.a * x + m.b * y - m.z) = m.a * x + m.b * y - m.z := IntWalk.i64_in _ (by omega)
  clear h hp
  go_enter Try.func67, Try.ntmps67
  go_wp2
  go_ret
  exact ⟨rfl, ((Below.refl _ _).alloc (Nat.le_refl _) _).alloc (by simp) _⟩
def hldB (m : Ms) (x y : Int) : Bool := okM m && (vldP x y && decide (absI (missI m x y) ≤ m.d))
structure PtAt (x y : Int) (bp : Nat) (w : World) : Prop where
  lt : bp < w.heap.size
  c0 : w.cell? ⟨bp, 0, none⟩ = some (.int .i64 x)
  c1 : w.cell? ⟨bp, 1, none⟩ = some (.int .i64 y)
theorem pt_new (x y : Int) (w : World) (t : TypeId) : PtAt x y w.heap.size (w.alloc (.cells #[.int .i64 x, .int .i64 y] t)) :=
  ⟨by simp, by rw [World.cell?_alloc_at _ _ _ _ rfl]; rfl, by rw [World.cell?_alloc_at _ _ _ _ rfl]; rfl⟩
theorem PtAt.below {x y : Int} {bp : Nat} {w w' : World} (h : PtAt x y bp w) (hb : Below w.heap.size w w') : PtAt x y bp w' :=
  ⟨Nat.lt_of_lt_of_le h.lt hb.size, (hb.cell (p := ⟨bp, 0, none⟩) h.lt).trans h.c0, (hb.cell (p := ⟨bp, 1, none⟩) h.lt).trans h.c1⟩
theorem regrown_drewN {B : Nat} {w w' : World} {P : Program} {f : FuncId} {args : Array Value} {v : Value} (h : Calls P f args w fun e w' => e = .returned v ∧ w = w') : Calls P f args w fun e w' => e = .returned v ∧ Below w.heap.size w w' :=
  h.mono fun e w' ⟨h1, h2⟩ => ⟨h1, by rw [← h2]; exact Below.refl _ _⟩
set_option maxHeartbeats 8000000 in
set_option maxRecDepth 100000 in
theorem holdsM_any (m : Ms) (x y : Int) (w : World) :
    Calls Try.prog 45 #[.agg #[.int .i64 m.s, .int .i64 m.a, .int .i64 m.b, .int .i64 m.z, .int .i64 m.d, .int .i64 m.w], .agg #[.int .i64 x, .int .i64 y]] w fun e w' => e = .returned (.bool (hldB m x y)) ∧ Below w.heap.size w w' := by
  have HV := fun w => valid_any m.s m.a m.b m.z m.d m.w w
  have HP := fun w => vldP_any x y w
  have CN := Lib.hid ((copy_new m w 50).below ((Below.refl _ _).alloc (Nat.le_refl _) (.cells #[.int .i64 x, .int .i64 y] 44)))
  have PN := Lib.hid (pt_new x y (w.alloc (.cells #[.int .i64 m.s, .int .i64 m.a, .int .i64 m.b, .int .i64 m.z, .int .i64 m.d, .int .i64 m.w] 50)) 44)
  have HB := Lib.hid (((Below.refl w.heap.size w).alloc (Nat.le_refl _) (.cells #[.int .i64 m.s, .int .i64 m.a, .int .i64 m.b, .int .i64 m.z, .int .i64 m.d, .int .i64 m.w] 50)).alloc (by simp) (.cells #[.int .i64 x, .int .i64 y] 44))
  have EO : okF m.s m.a m.b m.z m.d m.w = okM m := rfl
  have EH : hldB m x y = (okM m && (vldP x y && decide (absI (missI m x y) ≤ m.d))) := rfl
  rw [EO] at HV
  have kv := Lib.hid fun w => HV w
  cases ho : okM m with
  | false =>
    rw [ho] at kv EH
    have E := Lib.hid EH
    clear HV HP EO EH ho
    go_enter Try.func45, Try.ntmps45
    go_wp2_with fail
    generalize (w.alloc (.cells #[.int .i64 m.s, .int .i64 m.a, .int .i64 m.b, .int .i64 m.z, .int .i64 m.d, .int .i64 m.w] 50)).alloc (.cells #[.int .i64 x, .int .i64 y] 44) = W1 at *
    rw [World.size_alloc] at PN
    generalize hs : w.heap.size = bm at *
    have HS := Lib.hid hs
    clear hs
    have cn := CN.out
    have pn := PN.out
    have g0 := fun d os => cell_regrown cn.c0 d os
    have g1 := fun d os => cell_regrown cn.c1 d os
    have g2 := fun d os => cell_regrown cn.c2 d os
    have g3 := fun d os => cell_regrown cn.c3 d os
    have g4 := fun d os => cell_regrown cn.c4 d os
    have g5 := fun d os => cell_regrown cn.c5 d os
    have gp0 := fun d os => cell_regrown pn.c0 d os
    have gp1 := fun d os => cell_regrown pn.c1 d os
    have rv := Lib.hid (fun d os => Calls.regrown_of (kv.out (Go.Sort.grow (redrawn W1 d) os)))
    clear cn pn
    refine wp_region_quiet_below (by kernel_rfl) (by kernel_rfl) ?_
    repeat (quiet_step (first | with_reducible exact rv.out _ _))
    refine wpQuiet_nil ?_
    intro w2 hw'
    have hb2 : Below W1.heap.size W1 w2 := by
      obtain ⟨⟨dq, osq⟩, hw''⟩ := hw'
      rw [hw'']; exact below_regrown W1 dq osq
    have HB2 := Lib.hid (HB.out.trans (hb2.mono (by rw [← HS.out]; exact HB.out.size)))
    clear hb2 hw' g0 g1 g2 g3 g4 g5 gp0 gp1
    go_wp2
    go_ret
    exact ⟨by rw [E.out]; rfl, by rw [HS.out]; exact HB2.out⟩
  | true =>
    have HOK := okM_iff.1 ho
    rw [ho] at kv EH
    have kp := Lib.hid fun w => HP w
    cases hp : vldP x y with
    | false =>
      rw [hp] at kp EH
      have E := Lib.hid EH
      clear HV HP EO EH ho hp HOK
      go_enter Try.func45, Try.ntmps45
      go_wp2_with fail
      generalize (w.alloc (.cells #[.int .i64 m.s, .int .i64 m.a, .int .i64 m.b, .int .i64 m.z, .int .i64 m.d, .int .i64 m.w] 50)).alloc (.cells #[.int .i64 x, .int .i64 y] 44) = W1 at *
      rw [World.size_alloc] at PN
      generalize hs : w.heap.size = bm at *
      have HS := Lib.hid hs
      clear hs
      have cn := CN.out
      have pn := PN.out
      have g0 := fun d os => cell_regrown cn.c0 d os
      have g1 := fun d os => cell_regrown cn.c1 d os
      have g2 := fun d os => cell_regrown cn.c2 d os
      have g3 := fun d os => cell_regrown cn.c3 d os
      have g4 := fun d os => cell_regrown cn.c4 d os
      have g5 := fun d os => cell_regrown cn.c5 d os
      have gp0 := fun d os => cell_regrown pn.c0 d os
      have gp1 := fun d os => cell_regrown pn.c1 d os
      have rv := Lib.hid (fun d os => Calls.regrown_of (kv.out (Go.Sort.grow (redrawn W1 d) os)))
      have rp := Lib.hid (fun d os => Calls.regrown_of (kp.out (Go.Sort.grow (redrawn W1 d) os)))
      clear cn pn
      refine wp_region_quiet_below (by kernel_rfl) (by kernel_rfl) ?_
      repeat (quiet_step (first | with_reducible exact rv.out _ _ | with_reducible exact rp.out _ _))
      refine wpQuiet_nil ?_
      intro w2 hw'
      have hb2 : Below W1.heap.size W1 w2 := by
        obtain ⟨⟨dq, osq⟩, hw''⟩ := hw'
        rw [hw'']; exact below_regrown W1 dq osq
      have HB2 := Lib.hid (HB.out.trans (hb2.mono (by rw [← HS.out]; exact HB.out.size)))
      clear hb2 hw' g0 g1 g2 g3 g4 g5 gp0 gp1
      go_wp2
      go_ret
      exact ⟨by rw [E.out]; rfl, by rw [HS.out]; exact HB2.out⟩
    | true =>
      obtain ⟨f0, f1, f2, f3⟩ := miss_fit HOK hp
      have z0 := HOK.z0
      have z1 := HOK.z1
      have km := Lib.hid fun w => miss_any m x y w HOK hp
      have kz := Lib.hid fun w => regrown_drewN (B := 0) (w' := w) (abs_any (missI m x y) w (by unfold missI; omega) (by unfold missI; omega))
      rw [hp] at kp EH
      have E := Lib.hid EH
      clear HV HP EO EH ho hp HOK f0 f1 f2 f3 z0 z1
      go_enter Try.func45, Try.ntmps45
      go_wp2_with fail
      generalize (w.alloc (.cells #[.int .i64 m.s, .int .i64 m.a, .int .i64 m.b, .int .i64 m.z, .int .i64 m.d, .int .i64 m.w] 50)).alloc (.cells #[.int .i64 x, .int .i64 y] 44) = W1 at *
      rw [World.size_alloc] at PN
      generalize hs : w.heap.size = bm at *
      have HS := Lib.hid hs
      clear hs
      have cn := CN.out
      have pn := PN.out
      have g0 := fun d os => cell_regrown cn.c0 d os
      have g1 := fun d os => cell_regrown cn.c1 d os
      have g2 := fun d os => cell_regrown cn.c2 d os
      have g3 := fun d os => cell_regrown cn.c3 d os
      have g4 := fun d os => cell_regrown cn.c4 d os
      have g5 := fun d os => cell_regrown cn.c5 d os
      have gp0 := fun d os => cell_regrown pn.c0 d os
      have gp1 := fun d os => cell_regrown pn.c1 d os
      have rv := Lib.hid (fun d os => Calls.regrown_of (kv.out (Go.Sort.grow (redrawn W1 d) os)))
      have rp := Lib.hid (fun d os => Calls.regrown_of (kp.out (Go.Sort.grow (redrawn W1 d) os)))
      have rm := Lib.hid (fun d os => Calls.regrown_of (km.out (Go.Sort.grow (redrawn W1 d) os)))
      have rz := Lib.hid (fun d os => Calls.regrown_of (kz.out (Go.Sort.grow (redrawn W1 d) os)))
      clear cn pn
      refine wp_region_quiet_below (by kernel_rfl) (by kernel_rfl) ?_
      repeat (quiet_step (first | with_reducible exact rv.out _ _ | with_reducible exact rp.out _ _ | with_reducible exact rm.out _ _ | with_reducible exact rz.out _ _))
      refine wpQuiet_nil ?_
      intro w2 hw'
      have hb2 : Below W1.heap.size W1 w2 := by
        obtain ⟨⟨dq, osq⟩, hw''⟩ := hw'
        rw [hw'']; exact below_regrown W1 dq osq
      have HB2 := Lib.hid (HB.out.trans (hb2.mono (by rw [← HS.out]; exact HB.out.size)))
      clear hb2 hw' g0 g1 g2 g3 g4 g5 gp0 gp1
      go_wp2
      go_ret
      exact ⟨by rw [E.out]; rfl, by rw [HS.out]; exact HB2.out⟩
def allB (l : List Ms) (x y but : Int) : Bool := l.all fun m => decide (m.s = but) || hldB m x y
def AlR (l : List Ms) (x y but : Int) (bp : Nat) (w : World) (u : Value) (wr : World) : Prop := ∃ k : Nat, u = .int .i64 k ∧ k ≤ l.length ∧ Hid (∀ i, i < k → (decide ((nth l i).s = but) || hldB (nth l i) x y) = true) ∧ Hid (Below w.heap.size w wr) ∧ Hid (PtAt x y bp wr)
set_option maxHeartbeats 4000000 in
theorem all_some (l : List Ms) (x y but : Int) (b o cap : Nat) (w : World) (h : MsAt l b o w) (hc : l.length ≤ cap) (hm : cap ≤ 9223372036854775807) :
    Calls Try.prog 27 #[.slice (some ⟨b, o, none⟩) l.length cap, .agg #[.int .i64 x, .int .i64 y], .int .i64 but] w fun e w' => e = .returned (.bool (allB l x y but)) ∧ Below w.heap.size w w' := by
  have H := Lib.hid h
  have hlt := h.lt
  have PN := Lib.hid (pt_new x y w 44)
  have HB0 := Lib.hid ((Below.refl w.heap.size w).alloc (Nat.le_refl _) (.cells #[.int .i64 x, .int .i64 y] 44))
  clear h
  go_enter Try.func27, Try.ntmps27
  go_wp2
  generalize w.alloc (.cells #[.int .i64 x, .int .i64 y] 44) = w1 at *
  go_loopw [11] (AlR l x y but w.heap.size w) (fun i _ => l.length - (intOf i).toNat)
  case atStart => exact ⟨0, rfl, Nat.zero_le _, Lib.hid fun i hi => absurd hi (by omega), HB0, PN⟩
  case round =>
    obtain ⟨k, rfl, hk, hok, HB, HP⟩ := hrel
    by_cases q : k < l.length
    · have q' : decide (k < l.length) = true := by simpa using q
      have M := H.out.keep HB.out hlt
      have c0 := M.c0 k q
      have c1 := M.c1 k q
      have c2 := M.c2 k q
      have c3 := M.c3 k q
      have c4 := M.c4 k q
      have c5 := M.c5 k q
      have pp := HP.out
      have p0 := pp.c0
      have p1 := pp.c1
      have hp := pp.lt
      have MEM := Lib.hid (nth_mem q)
      have HA := Lib.hid ((Below.refl wr.heap.size wr).alloc (Nat.le_refl _) (.cells #[.int .i64 (nth l k).s, .int .i64 (nth l k).a, .int .i64 (nth l k).b, .int .i64 (nth l k).z, .int .i64 (nth l k).d, .int .i64 (nth l k).w] 50))
      clear M pp
      by_cases e : (nth l k).s = but
      · have g : ((nth l k).s != but) = false := by simpa using e
        have E := Lib.hid e
        clear e
        go_wp2
        go_roundw
        case rel =>
          refine ⟨k + 1, by go_num, by omega, Lib.hid fun i hi => ?_, HB.out.trans (HA.out.mono HB.out.size), HP.out.below HA.out⟩
          by_cases e : i = k
          · rw [e, decide_eq_true E.out]; rfl
          · exact hok.out i (by omega)
        case measure => simp [intOf]; omega
      · have g : ((nth l k).s != but) = true := by simpa using e
        have E := Lib.hid (show decide ((nth l k).s = but) = false from decide_eq_false e)
        have V := fun w => holdsM_any (nth l k) x y w
        clear e
        cases hv : hldB (nth l k) x y with
        | true =>
          rw [hv] at V
          have HVV := Lib.hid V
          have HHV := Lib.hid hv
          clear V hv
          go_wp2_with fail
          refine (HVV.out _).mono ?_
          rintro e w2 ⟨rfl, hb2⟩
          have HB2 := Lib.hid (HA.out.trans (hb2.mono HA.out.size))
          clear hb2 c0 c1 c2 c3 c4 c5 p0 p1 hp
          go_wp2
          go_roundw
          case rel =>
            refine ⟨k + 1, by go_num, by omega, Lib.hid fun i hi => ?_, HB.out.trans (HB2.out.mono HB.out.size), HP.out.below HB2.out⟩
            by_cases e : i = k
            · rw [e, HHV.out]; exact Bool.or_true _
            · exact hok.out i (by omega)
          case measure => simp [intOf]; omega
        | false =>
          have EE := Lib.hid (show allB l x y but = false by
            unfold allB
            rw [List.all_eq_false]
            exact ⟨_, MEM.out, by rw [E.out, hv]; decide⟩)
          rw [hv] at V
          have HVV := Lib.hid V
          clear V hv
          go_wp2_with fail
          refine (HVV.out _).mono ?_
          rintro e w2 ⟨rfl, hb2⟩
          have HB2 := Lib.hid (HA.out.trans (hb2.mono HA.out.size))
          clear hb2 c0 c1 c2 c3 c4 c5 p0 p1 hp
          go_wp2
          go_ret
          exact ⟨by rw [EE.out]; rfl, HB.out.trans (HB2.out.mono HB.out.size)⟩
    · have EE := Lib.hid (show allB l x y but = true by
        refine List.all_eq_true.2 fun m hm => ?_
        obtain ⟨i, hi, rfl⟩ := List.getElem_of_mem hm
        rw [← nth_eq hi]
        exact hok.out i (by omega))
      go_wp2
      go_ret
      exact ⟨by rw [EE.out]; rfl, HB.out⟩
set_option maxHeartbeats 4000000 in
theorem all_nil (x y but : Int) (w : World) :
    Calls Try.prog 27 #[.slice none 0 0, .agg #[.int .i64 x, .int .i64 y], .int .i64 but] w fun e w' => e = .returned (.bool (allB [] x y but)) ∧ Below w.heap.size w w' := by
  go_enter Try.func27, Try.ntmps27
  go_wp2
  go_loop [11] (fun v => v = .int .i64 0) (fun _ => 0)
  case atStart => rfl
  case round =>
    subst hrel
    go_wp2
    go_ret
    exact ⟨rfl, (Below.refl _ _).alloc (Nat.le_refl _) _⟩
theorem all_any (l : List Ms) (x y but : Int) (v : Value) (w : World) (h : LstAt l v w) :
    Calls Try.prog 27 #[v, .agg #[.int .i64 x, .int .i64 y], .int .i64 but] w fun e w' => e = .returned (.bool (allB l x y but)) ∧ Below w.heap.size w w' := by
  rcases h with ⟨rfl, rfl⟩ | ⟨b, o, cap, rfl, h2, h3, h4⟩
  · exact all_nil x y but w
  · exact all_some l x y but b o cap w h4 h2 h3
end Go.Proofs.Ytmlopbolekddnaa
