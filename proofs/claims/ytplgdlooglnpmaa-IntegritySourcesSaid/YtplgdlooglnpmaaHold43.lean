/-
  The walk of lsq.Holds.
-/
import Derived.Test.YtplgdlooglnpmaaAbs43
namespace Go.Proofs.Ytplgdlooglnpmaa
set_option linter.unusedVariables false
open Go.RowKit

theorem mul_abs {x y X Y : Int} (h1 : -X ≤ x) (h2 : x ≤ X) (h3 : -Y ≤ y) (h4 : y ≤ Y) : -(X * Y) ≤ x * y ∧ x * y ≤ X * Y := by
  have a := Int.mul_nonneg (show 0 ≤ X - x by omega) (show 0 ≤ Y + y by omega)
  have b := Int.mul_nonneg (show 0 ≤ X + x by omega) (show 0 ≤ Y - y by omega)
  have c := Int.mul_nonneg (show 0 ≤ X - x by omega) (show 0 ≤ Y - y by omega)
  have d := Int.mul_nonneg (show 0 ≤ X + x by omega) (show 0 ≤ Y + y by omega)
  have e1 : (X - x) * (Y + y) + (X + x) * (Y - y) = 2 * (X * Y) - 2 * (x * y) := by grind
  have e2 : (X - x) * (Y - y) + (X + x) * (Y + y) = 2 * (X * Y) + 2 * (x * y) := by grind
  omega
structure CopyAt (m : Ms) (bm : Nat) (W : World) : Prop where
  lt : bm < W.heap.size
  c0 : W.cell? ⟨bm, 0, none⟩ = some (.int .i64 m.s)
  c1 : W.cell? ⟨bm, 1, none⟩ = some (.int .i64 m.a)
  c2 : W.cell? ⟨bm, 2, none⟩ = some (.int .i64 m.b)
  c3 : W.cell? ⟨bm, 3, none⟩ = some (.int .i64 m.z)
  c4 : W.cell? ⟨bm, 4, none⟩ = some (.int .i64 m.d)
  c5 : W.cell? ⟨bm, 5, none⟩ = some (.int .i64 m.w)
theorem copy_new (m : Ms) (w : World) (t : TypeId) : CopyAt m w.heap.size (w.alloc (.cells #[.int .i64 m.s, .int .i64 m.a, .int .i64 m.b, .int .i64 m.z, .int .i64 m.d, .int .i64 m.w] t)) :=
  ⟨by simp, by rw [World.cell?_alloc_at _ _ _ _ rfl]; rfl, by rw [World.cell?_alloc_at _ _ _ _ rfl]; rfl, by rw [World.cell?_alloc_at _ _ _ _ rfl]; rfl, by rw [World.cell?_alloc_at _ _ _ _ rfl]; rfl, by rw [World.cell?_alloc_at _ _ _ _ rfl]; rfl, by rw [World.cell?_alloc_at _ _ _ _ rfl]; rfl⟩
theorem CopyAt.same {m : Ms} {bm : Nat} {W w' : World} (h : CopyAt m bm W) (hk : w'.heap[bm]? = W.heap[bm]?) (hs : W.heap.size ≤ w'.heap.size) : CopyAt m bm w' :=
  ⟨Nat.lt_of_lt_of_le h.lt hs, (World.cell?_of_block (w := W) (a := ⟨bm, 0, none⟩) hk).trans h.c0, (World.cell?_of_block (w := W) (a := ⟨bm, 1, none⟩) hk).trans h.c1, (World.cell?_of_block (w := W) (a := ⟨bm, 2, none⟩) hk).trans h.c2, (World.cell?_of_block (w := W) (a := ⟨bm, 3, none⟩) hk).trans h.c3, (World.cell?_of_block (w := W) (a := ⟨bm, 4, none⟩) hk).trans h.c4, (World.cell?_of_block (w := W) (a := ⟨bm, 5, none⟩) hk).trans h.c5⟩
theorem CopyAt.below {m : Ms} {bm : Nat} {W w' : World} (h : CopyAt m bm W) (hb : Below W.heap.size W w') : CopyAt m bm w' := h.same (hb.block bm h.lt) hb.size
/-- how far a measurement is from holding -/
def missI (m : Ms) (x y : Int) : Int := m.a * x + m.b * y - m.z
theorem miss_fit {m : Ms} {x y : Int} (h : OkM m) (hp : vldP x y = true) : -512000000 ≤ m.a * x ∧ m.a * x ≤ 512000000 ∧ -512000000 ≤ m.b * y ∧ m.b * y ≤ 512000000 := by
  obtain ⟨x0, x1, y0, y1⟩ := vldP_iff.1 hp
  have a := mul_abs (X := 256) (Y := 2000000) h.a0 h.a1 x0 x1
  have b := mul_abs (X := 256) (Y := 2000000) h.b0 h.b1 y0 y1
  omega
set_option maxHeartbeats 4000000 in
theorem miss_any (m : Ms) (x y : Int) (w : World) (h : OkM m) (hp : vldP x y = true) :
    Calls Try.prog 36 #[.agg #[.int .i64 m.s, .int .i64 m.a, .int .i64 m.b, .int .i64 m.z, .int .i64 m.d, .int .i64 m.w], .agg #[.int .i64 x, .int .i64 y]] w fun e w' => e = .returned (.int .i64 (missI m x y)) ∧ Below w.heap.size w w' := by
  obtain ⟨f0, f1, f2, f3⟩ := miss_fit h hp
  have z0 := h.z0
  have z1 := h.z1
  have s0 : IntKind.i64.wrap (m.a * x) = m.a * x := IntWalk.i64_in _ (by omega)
  have s1 : IntKind.i64.wrap (m.b * y) = m.b * y := IntWalk.i64_in _ (by omega)
  have s2 : IntKind.i64.wrap (m.a * x + m.b * y) = m.a * x + m.b * y := IntWalk.i64_in _ (by omega)
  have s3 : IntKind.i64.wrap (m.a * x + m.b * y - m.z) = m.a * x + m.b * y - m.z := IntWalk.i64_in _ (by omega)
  clear h hp
  go_enter Try.func36, Try.ntmps36
  go_wp2
  go_ret
  exact ⟨rfl, ((Below.refl _ _).alloc (Nat.le_refl _) _).alloc (by simp) _⟩
def hldB (m : Ms) (x y : Int) : Bool := okM m && (vldP x y && decide (absI (missI m x y) ≤ m.d))
structure PtAt (x y : Int) (bp : Nat) (w : World) : Prop where
  lt : bp < w.heap.size
  c0 : w.cell? ⟨bp, 0, none⟩ = some (.int .i64 x)
  c1 : w.cell? ⟨bp, 1, none⟩ = some (.int .i64 y)
theorem pt_new (x y : Int) (w : World) (t : TypeId) : PtAt x y w.heap.size (w.alloc (.cells #[.int .i64 x, .int .i64 y] t)) :=
  ⟨by simp, by rw [World.cell?_alloc_at _ _ _ _ rfl]; rfl, by rw [World.cell?_alloc_at _ _ _ _ rfl]; rfl⟩
theorem PtAt.below {x y : Int} {bp : Nat} {w w' : World} (h : PtAt x y bp w) (hb : Below w.heap.size w w') : PtAt x y bp w' :=
  ⟨Nat.lt_of_lt_of_le h.lt hb.size, (hb.cell (p := ⟨bp, 0, none⟩) h.lt).trans h.c0, (hb.cell (p := ⟨bp, 1, none⟩) h.lt).trans h.c1⟩
set_option maxHeartbeats 8000000 in
set_option maxRecDepth 100000 in
theorem holdsM_any (m : Ms) (x y : Int) (w : World) :
    Calls Try.prog 14 #[.agg #[.int .i64 m.s, .int .i64 m.a, .int .i64 m.b, .int .i64 m.z, .int .i64 m.d, .int .i64 m.w], .agg #[.int .i64 x, .int .i64 y]] w fun e w' => e = .returned (.bool (hldB m x y)) ∧ Below w.heap.size w w' := by
  have HV := fun w => valid_any m.s m.a m.b m.z m.d m.w w
  have HP := fun w => vldP_any x y w
  have CN := Lib.hid ((copy_new m w 36).below ((Below.refl _ _).alloc (Nat.le_refl _) (.cells #[.int .i64 x, .int .i64 y] 30)))
  have PN := Lib.hid (pt_new x y (w.alloc (.cells #[.int .i64 m.s, .int .i64 m.a, .int .i64 m.b, .int .i64 m.z, .int .i64 m.d, .int .i64 m.w] 36)) 30)
  have HB := Lib.hid (((Below.refl w.heap.size w).alloc (Nat.le_refl _) (.cells #[.int .i64 m.s, .int .i64 m.a, .int .i64 m.b, .int .i64 m.z, .int .i64 m.d, .int .i64 m.w] 36)).alloc (by simp) (.cells #[.int .i64 x, .int .i64 y] 30))
  have EO : okF m.s m.a m.b m.z m.d m.w = okM m := rfl
  have EH : hldB m x y = (okM m && (vldP x y && decide (absI (missI m x y) ≤ m.d))) := rfl
  rw [EO] at HV
  have kv := Lib.hid fun w => HV w
  cases ho : okM m with
  | false =>
    rw [ho] at kv EH
    have E := Lib.hid EH
    clear HV HP EO EH ho
    go_enter Try.func14, Try.ntmps14
    go_wp2_with fail
    generalize (w.alloc (.cells #[.int .i64 m.s, .int .i64 m.a, .int .i64 m.b, .int .i64 m.z, .int .i64 m.d, .int .i64 m.w] 36)).alloc (.cells #[.int .i64 x, .int .i64 y] 30) = W1 at *
    rw [World.size_alloc] at PN
    generalize hs : w.heap.size = bm at *
    have HS := Lib.hid hs
    clear hs
    have cn := CN.out
    have pn := PN.out
    have g0 := fun d os => cell_regrown cn.c0 d os
    have g1 := fun d os => cell_regrown cn.c1 d os
    have g2 := fun d os => cell_regrown cn.c2 d os
    have g3 := fun d os => cell_regrown cn.c3 d os
    have g4 := fun d os => cell_regrown cn.c4 d os
    have g5 := fun d os => cell_regrown cn.c5 d os
    have gp0 := fun d os => cell_regrown pn.c0 d os
    have gp1 := fun d os => cell_regrown pn.c1 d os
    have rv := Lib.hid (fun d os => Calls.regrown_of (kv.out (Go.Sort.grow (redrawn W1 d) os)))
    clear cn pn
    refine wp_region_quiet_below (by kernel_rfl) (by kernel_rfl) ?_
    repeat (quiet_step (first | with_reducible exact rv.out _ _))
    refine wpQuiet_nil ?_
    intro w2 hw'
    have hb2 : Below W1.heap.size W1 w2 := by
      obtain ⟨⟨dq, osq⟩, hw''⟩ := hw'
      rw [hw'']; exact below_regrown W1 dq osq
    have HB2 := Lib.hid (HB.out.trans (hb2.mono (by rw [← HS.out]; exact HB.out.size)))
    clear hb2 hw' g0 g1 g2 g3 g4 g5 gp0 gp1
    go_wp2
    go_ret
    exact ⟨by rw [E.out]; rfl, by rw [HS.out]; exact HB2.out⟩
  | true =>
    have HOK := okM_iff.1 ho
    rw [ho] at kv EH
    have kp := Lib.hid fun w => HP w
    cases hp : vldP x y with
    | false =>
      rw [hp] at kp EH
      have E := Lib.hid EH
      clear HV HP EO EH ho hp HOK
      go_enter Try.func14, Try.ntmps14
      go_wp2_with fail
      generalize (w.alloc (.cells #[.int .i64 m.s, .int .i64 m.a, .int .i64 m.b, .int .i64 m.z, .int .i64 m.d, .int .i64 m.w] 36)).alloc (.cells #[.int .i64 x, .int .i64 y] 30) = W1 at *
      rw [World.size_alloc] at PN
      generalize hs : w.heap.size = bm at *
      have HS := Lib.hid hs
      clear hs
      have cn := CN.out
      have pn := PN.out
      have g0 := fun d os => cell_regrown cn.c0 d os
      have g1 := fun d os => cell_regrown cn.c1 d os
      have g2 := fun d os => cell_regrown cn.c2 d os
      have g3 := fun d os => cell_regrown cn.c3 d os
      have g4 := fun d os => cell_regrown cn.c4 d os
      have g5 := fun d os => cell_regrown cn.c5 d os
      have gp0 := fun d os => cell_regrown pn.c0 d os
      have gp1 := fun d os => cell_regrown pn.c1 d os
      have rv := Lib.hid (fun d os => Calls.regrown_of (kv.out (Go.Sort.grow (redrawn W1 d) os)))
      have rp := Lib.hid (fun d os => Calls.regrown_of (kp.out (Go.Sort.grow (redrawn W1 d) os)))
      clear cn pn
      refine wp_region_quiet_below (by kernel_rfl) (by kernel_rfl) ?_
      repeat (quiet_step (first | with_reducible exact rv.out _ _ | with_reducible exact rp.out _ _))
      refine wpQuiet_nil ?_
      intro w2 hw'
      have hb2 : Below W1.heap.size W1 w2 := by
        obtain ⟨⟨dq, osq⟩, hw''⟩ := hw'
        rw [hw'']; exact below_regrown W1 dq osq
      have HB2 := Lib.hid (HB.out.trans (hb2.mono (by rw [← HS.out]; exact HB.out.size)))
      clear hb2 hw' g0 g1 g2 g3 g4 g5 gp0 gp1
      go_wp2
      go_ret
      exact ⟨by rw [E.out]; rfl, by rw [HS.out]; exact HB2.out⟩
    | true =>
      obtain ⟨f0, f1, f2, f3⟩ := miss_fit HOK hp
      have z0 := HOK.z0
      have z1 := HOK.z1
      have km := Lib.hid fun w => miss_any m x y w HOK hp
      have kz := Lib.hid fun w => regrown_drewN (B := 0) (w' := w) (abs_any (missI m x y) w (by unfold missI; omega) (by unfold missI; omega))
      rw [hp] at kp EH
      have E := Lib.hid EH
      clear HV HP EO EH ho hp HOK f0 f1 f2 f3 z0 z1
      go_enter Try.func14, Try.ntmps14
      go_wp2_with fail
      generalize (w.alloc (.cells #[.int .i64 m.s, .int .i64 m.a, .int .i64 m.b, .int .i64 m.z, .int .i64 m.d, .int .i64 m.w] 36)).alloc (.cells #[.int .i64 x, .int .i64 y] 30) = W1 at *
      rw [World.size_alloc] at PN
      generalize hs : w.heap.size = bm at *
      have HS := Lib.hid hs
      clear hs
      have cn := CN.out
      have pn := PN.out
      have g0 := fun d os => cell_regrown cn.c0 d os
      have g1 := fun d os => cell_regrown cn.c1 d os
      have g2 := fun d os => cell_regrown cn.c2 d os
      have g3 := fun d os => cell_regrown cn.c3 d os
      have g4 := fun d os => cell_regrown cn.c4 d os
      have g5 := fun d os => cell_regrown cn.c5 d os
      have gp0 := fun d os => cell_regrown pn.c0 d os
      have gp1 := fun d os => cell_regrown pn.c1 d os
      have rv := Lib.hid (fun d os => Calls.regrown_of (kv.out (Go.Sort.grow (redrawn W1 d) os)))
      have rp := Lib.hid (fun d os => Calls.regrown_of (kp.out (Go.Sort.grow (redrawn W1 d) os)))
      have rm := Lib.hid (fun d os => Calls.regrown_of (km.out (Go.Sort.grow (redrawn W1 d) os)))
      have rz := Lib.hid (fun d os => Calls.regrown_of (kz.out (Go.Sort.grow (redrawn W1 d) os)))
      clear cn pn
      refine wp_region_quiet_below (by kernel_rfl) (by kernel_rfl) ?_
      repeat (quiet_step (first | with_reducible exact rv.out _ _ | with_reducible exact rp.out _ _ | with_reducible exact rm.out _ _ | with_reducible exact rz.out _ _))
      refine wpQuiet_nil ?_
      intro w2 hw'
      have hb2 : Below W1.heap.size W1 w2 := by
        obtain ⟨⟨dq, osq⟩, hw''⟩ := hw'
        rw [hw'']; exact below_regrown W1 dq osq
      have HB2 := Lib.hid (HB.out.trans (hb2.mono (by rw [← HS.out]; exact HB.out.size)))
      clear hb2 hw' g0 g1 g2 g3 g4 g5 gp0 gp1
      go_wp2
      go_ret
      exact ⟨by rw [E.out]; rfl, by rw [HS.out]; exact HB2.out⟩
end Go.Proofs.Ytplgdlooglnpmaa
