/-
  The walk of awake: the chapter's examples hold.
-/
import Derived.Test.YtnnafjmfbnnnjaaDoorRowsJoin
import Derived.Test.YtnnafjmfbnnnjaaDoorTextWalk41
import Derived.Test.YtnnafjmfbnnnjaaDoorSensorFour
namespace Go.Proofs.YtnnafjmfbnnnjaaDoor
set_option linter.unusedVariables false
open Go.RowKit Tr Sq

theorem block_keep {w w' : World} (hb : Below w.heap.size w w') {k : Nat} {o : Obj} (h : w.heap[k]? = some o) : w'.heap[k]? = some o := by
  have hk : k < w.heap.size := (Array.getElem?_eq_some_iff.1 h).1
  rw [hb.block k hk, h]
theorem RowsIs.keep {w w' w'' : World} {l : List Ms} {u : Value} (h : RowsIs w l u w') (hb : Below w'.heap.size w' w'') : RowsIs w l u w'' := by
  rcases h with h | ⟨k, h0, h1, h2, h3⟩
  · exact .inl h
  · exact .inr ⟨k, h0, h1, h2, block_keep hb h3⟩
/-- the cells of a slice of one measurement -/
theorem rows_one {w w' : World} {m : Ms} {u : Value} (h : RowsIs w [m] u w') : ∃ k, u = .slice (some ⟨k, 0, none⟩) 1 1 ∧ w.heap.size ≤ k ∧ k < w'.heap.size ∧ w'.cell? ⟨k, 0, none⟩ = some (.int .i64 m.s) ∧ w'.cell? ⟨k, 1, none⟩ = some (.int .i64 m.a) ∧ w'.cell? ⟨k, 2, none⟩ = some (.int .i64 m.b) ∧ w'.cell? ⟨k, 3, none⟩ = some (.int .i64 m.z) ∧ w'.cell? ⟨k, 4, none⟩ = some (.int .i64 m.d) ∧ w'.cell? ⟨k, 5, none⟩ = some (.int .i64 m.w) := by
  rcases h with ⟨h, _⟩ | ⟨k, h0, h1, h2, h3⟩
  · cases h
  · have hk : k < w'.heap.size := (Array.getElem?_eq_some_iff.1 h3).1
    refine ⟨k, h1, h2, hk, ?_, ?_, ?_, ?_, ?_, ?_⟩ <;> (rw [cell_of_row w' k _ _ _ _ h3]; rfl)
theorem rows_two {w w' : World} {m n : Ms} {u : Value} (h : RowsIs w [m, n] u w') : ∃ k, u = .slice (some ⟨k, 0, none⟩) 2 2 ∧ w.heap.size ≤ k ∧ k < w'.heap.size ∧ w'.cell? ⟨k, 0, none⟩ = some (.int .i64 m.s) ∧ w'.cell? ⟨k, 1, none⟩ = some (.int .i64 m.a) ∧ w'.cell? ⟨k, 2, none⟩ = some (.int .i64 m.b) ∧ w'.cell? ⟨k, 3, none⟩ = some (.int .i64 m.z) ∧ w'.cell? ⟨k, 4, none⟩ = some (.int .i64 m.d) ∧ w'.cell? ⟨k, 5, none⟩ = some (.int .i64 m.w) ∧ w'.cell? ⟨k, 6, none⟩ = some (.int .i64 n.s) ∧ w'.cell? ⟨k, 7, none⟩ = some (.int .i64 n.a) ∧ w'.cell? ⟨k, 8, none⟩ = some (.int .i64 n.b) ∧ w'.cell? ⟨k, 9, none⟩ = some (.int .i64 n.z) ∧ w'.cell? ⟨k, 10, none⟩ = some (.int .i64 n.d) ∧ w'.cell? ⟨k, 11, none⟩ = some (.int .i64 n.w) := by
  rcases h with ⟨h, _⟩ | ⟨k, h0, h1, h2, h3⟩
  · cases h
  · have hk : k < w'.heap.size := (Array.getElem?_eq_some_iff.1 h3).1
    refine ⟨k, h1, h2, hk, ?_, ?_, ?_, ?_, ?_, ?_, ?_, ?_, ?_, ?_, ?_, ?_⟩ <;> (rw [cell_of_row w' k _ _ _ _ h3]; rfl)
theorem ex1 : rowsF 1 1 100 (-50) 0 30 2 0 0 0 0 0 = ([⟨1, 256, 0, 25600, 7680, 2⟩, ⟨1, 0, 256, -12800, 7680, 2⟩], 0) := by rfl
theorem ex2 : rowsF 2 2 0 0 10000 10 1 0 6000 8000 0 0 = ([⟨2, 154, 205, 2564000, 2816, 1⟩], 0) := by rfl
theorem ex3 : rowsF 3 3 0 0 32400000 0 1 0 6000 0 0 0 = ([⟨3, 0, -256, 0, 6002, 1⟩], 0) := by rfl
theorem ex4 : textF 1 1 100 (-50) 0 30 2 0 = [49, 32, 80, 32, 49, 48, 48, 32, 45, 53, 48, 32, 48, 32, 51, 48, 32, 50, 32, 48] := by decide +kernel
theorem ex5 : agrB 1 1 100 (-50) 0 30 2 0 130 (-80) = true := by decide +kernel
theorem ex6 : agrB 1 1 100 (-50) 0 30 2 0 131 (-80) = false := by decide +kernel
theorem r1 (w : World) : Calls Tryd.prog 17 #[.agg #[.int .i64 1, .int .u8 1, .int .i64 100, .int .i64 (-50), .int .i64 0, .int .i64 30, .int .i64 2, .int .i64 0], .agg #[.int .i64 0, .int .i64 0, .int .i64 0, .int .i64 0]] w (RowsE w ([⟨1, 256, 0, 25600, 7680, 2⟩, ⟨1, 0, 256, -12800, 7680, 2⟩], 0)) := by
  have := rows_any 1 1 100 (-50) 0 30 2 0 0 0 0 0 w (by decide) (by decide); rwa [ex1] at this
theorem r2 (w : World) : Calls Tryd.prog 17 #[.agg #[.int .i64 2, .int .u8 2, .int .i64 0, .int .i64 0, .int .i64 10000, .int .i64 10, .int .i64 1, .int .i64 0], .agg #[.int .i64 6000, .int .i64 8000, .int .i64 0, .int .i64 0]] w (RowsE w ([⟨2, 154, 205, 2564000, 2816, 1⟩], 0)) := by
  have := rows_any 2 2 0 0 10000 10 1 0 6000 8000 0 0 w (by decide) (by decide); rwa [ex2] at this
theorem r3 (w : World) : Calls Tryd.prog 17 #[.agg #[.int .i64 3, .int .u8 3, .int .i64 0, .int .i64 0, .int .i64 32400000, .int .i64 0, .int .i64 1, .int .i64 0], .agg #[.int .i64 6000, .int .i64 0, .int .i64 0, .int .i64 0]] w (RowsE w ([⟨3, 0, -256, 0, 6002, 1⟩], 0)) := by
  have := rows_any 3 3 0 0 32400000 0 1 0 6000 0 0 0 w (by decide) (by decide); rwa [ex3] at this
theorem r4 (w : World) (hE : Env w) : Calls Tryd.prog 28 #[.agg #[.int .i64 1, .int .u8 1, .int .i64 100, .int .i64 (-50), .int .i64 0, .int .i64 30, .int .i64 2, .int .i64 0]] w (RetB [49, 32, 80, 32, 49, 48, 48, 32, 45, 53, 48, 32, 48, 32, 51, 48, 32, 50, 32, 48] w) := by
  have := text_any 1 1 100 (-50) 0 30 2 0 w hE (by decide) (by decide); rwa [ex4] at this
theorem r5 (w : World) : Calls Tryd.prog 15 #[.agg #[.int .i64 1, .int .u8 1, .int .i64 100, .int .i64 (-50), .int .i64 0, .int .i64 30, .int .i64 2, .int .i64 0], .agg #[.int .i64 130, .int .i64 (-80)]] w fun e w' => e = .returned (.bool true) ∧ Below w.heap.size w w' := by
  have := agrees_any 1 1 100 (-50) 0 30 2 0 130 (-80) w (by decide) (by decide); rwa [ex5] at this
theorem r6 (w : World) : Calls Tryd.prog 15 #[.agg #[.int .i64 1, .int .u8 1, .int .i64 100, .int .i64 (-50), .int .i64 0, .int .i64 30, .int .i64 2, .int .i64 0], .agg #[.int .i64 131, .int .i64 (-80)]] w fun e w' => e = .returned (.bool false) ∧ Below w.heap.size w w' := by
  have := agrees_any 1 1 100 (-50) 0 30 2 0 131 (-80) w (by decide) (by decide); rwa [ex6] at this
set_option maxHeartbeats 4000000 in
set_option maxRecDepth 100000 in
theorem awake_any (w : World) (hE : Env w) : Calls Tryd.prog 12 #[] w fun e w' => e = .returned (.bool true) ∧ Below w.heap.size w w' := by
  have HE := Lib.hid hE
  clear hE
  go_enter Tryd.func12, Tryd.ntmps12
  go_wp2_with fail
  refine (r1 _).mono ?_
  rintro e w1 ⟨u1, rfl, x1, hb1⟩
  have A0 : Rep8 (((w.alloc (.cells #[.int .i64 1, .int .u8 1, .int .i64 100, .int .i64 (-50), .int .i64 0, .int .i64 30, .int .i64 2, .int .i64 0] 26)).alloc (.cells #[.int .i64 2, .int .u8 2, .int .i64 0, .int .i64 0, .int .i64 10000, .int .i64 10, .int .i64 1, .int .i64 0] 26)).alloc (.cells #[.int .i64 3, .int .u8 3, .int .i64 0, .int .i64 0, .int .i64 32400000, .int .i64 0, .int .i64 1, .int .i64 0] 26)) w.heap.size 1 1 100 (-50) 0 30 2 0 := by unfold Rep8; refine ⟨?_, ?_, ?_, ?_, ?_, ?_, ?_, ?_⟩ <;> go_simp
  have B0 : Rep8 (((w.alloc (.cells #[.int .i64 1, .int .u8 1, .int .i64 100, .int .i64 (-50), .int .i64 0, .int .i64 30, .int .i64 2, .int .i64 0] 26)).alloc (.cells #[.int .i64 2, .int .u8 2, .int .i64 0, .int .i64 0, .int .i64 10000, .int .i64 10, .int .i64 1, .int .i64 0] 26)).alloc (.cells #[.int .i64 3, .int .u8 3, .int .i64 0, .int .i64 0, .int .i64 32400000, .int .i64 0, .int .i64 1, .int .i64 0] 26)) (w.heap.size + 1) 2 2 0 0 10000 10 1 0 := by unfold Rep8; refine ⟨?_, ?_, ?_, ?_, ?_, ?_, ?_, ?_⟩ <;> go_simp
  have C0 : Rep8 (((w.alloc (.cells #[.int .i64 1, .int .u8 1, .int .i64 100, .int .i64 (-50), .int .i64 0, .int .i64 30, .int .i64 2, .int .i64 0] 26)).alloc (.cells #[.int .i64 2, .int .u8 2, .int .i64 0, .int .i64 0, .int .i64 10000, .int .i64 10, .int .i64 1, .int .i64 0] 26)).alloc (.cells #[.int .i64 3, .int .u8 3, .int .i64 0, .int .i64 0, .int .i64 32400000, .int .i64 0, .int .i64 1, .int .i64 0] 26)) (w.heap.size + 2) 3 3 0 0 32400000 0 1 0 := by unfold Rep8; refine ⟨?_, ?_, ?_, ?_, ?_, ?_, ?_, ?_⟩ <;> go_simp
  have hw0 := (((Below.refl w.heap.size w).alloc (by simp) (.cells #[.int .i64 1, .int .u8 1, .int .i64 100, .int .i64 (-50), .int .i64 0, .int .i64 30, .int .i64 2, .int .i64 0] 26)).alloc (by simp) (.cells #[.int .i64 2, .int .u8 2, .int .i64 0, .int .i64 0, .int .i64 10000, .int .i64 10, .int .i64 1, .int .i64 0] 26)).alloc (by simp; try omega) (.cells #[.int .i64 3, .int .u8 3, .int .i64 0, .int .i64 0, .int .i64 32400000, .int .i64 0, .int .i64 1, .int .i64 0] 26)
  have z0 : w.heap.size + 2 < (((w.alloc (.cells #[.int .i64 1, .int .u8 1, .int .i64 100, .int .i64 (-50), .int .i64 0, .int .i64 30, .int .i64 2, .int .i64 0] 26)).alloc (.cells #[.int .i64 2, .int .u8 2, .int .i64 0, .int .i64 0, .int .i64 10000, .int .i64 10, .int .i64 1, .int .i64 0] 26)).alloc (.cells #[.int .i64 3, .int .u8 3, .int .i64 0, .int .i64 0, .int .i64 32400000, .int .i64 0, .int .i64 1, .int .i64 0] 26)).heap.size := by simp
  generalize hW0 : (((w.alloc (.cells #[.int .i64 1, .int .u8 1, .int .i64 100, .int .i64 (-50), .int .i64 0, .int .i64 30, .int .i64 2, .int .i64 0] 26)).alloc (.cells #[.int .i64 2, .int .u8 2, .int .i64 0, .int .i64 0, .int .i64 10000, .int .i64 10, .int .i64 1, .int .i64 0] 26)).alloc (.cells #[.int .i64 3, .int .u8 3, .int .i64 0, .int .i64 0, .int .i64 32400000, .int .i64 0, .int .i64 1, .int .i64 0] 26)) = w0 at *
  clear hW0
  have A1 := A0.keep hb1 (by omega)
  have B1 := B0.keep hb1 (by omega)
  have C1 := C0.keep hb1 (by omega)
  have hw1 := Lib.hid (hw0.trans (hb1.mono hw0.size))
  have z1 : w.heap.size + 2 < w1.heap.size := Nat.lt_of_lt_of_le z0 hb1.size
  have X1 := Lib.hid x1
  have HA1 := Lib.hid A1
  have HB1 := Lib.hid B1
  have HC1 := Lib.hid C1
  clear A0 B0 C0 A1 C1 hb1 x1 hw0 z0
  obtain ⟨c0, c1, c2, c3, c4, c5, c6, c7⟩ := B1
  go_wp2_with fail
  refine (r2 _).mono ?_
  rintro e w2 ⟨u2, rfl, x2, hb2⟩
  have A2 := HA1.out.keep hb2 (by omega)
  have C2 := HC1.out.keep hb2 (by omega)
  have hw2 := Lib.hid (hw1.out.trans (hb2.mono hw1.out.size))
  have z2 : w.heap.size + 2 < w2.heap.size := Nat.lt_of_lt_of_le z1 hb2.size
  have X2 := Lib.hid (X1.out.keep hb2)
  have Y2 := Lib.hid x2
  have HA2 := Lib.hid A2
  clear c0 c1 c2 c3 c4 c5 c6 c7 HA1 HB1 HC1 A2 hb2 x2 hw1 z1 X1
  obtain ⟨c0, c1, c2, c3, c4, c5, c6, c7⟩ := C2
  go_wp2_with fail
  refine (r3 _).mono ?_
  rintro e w3 ⟨u3, rfl, x3, hb3⟩
  have A3 := HA2.out.keep hb3 (by omega)
  have hw3 := Lib.hid (hw2.out.trans (hb3.mono hw2.out.size))
  have z3 : w.heap.size < w3.heap.size := Nat.lt_of_lt_of_le (by omega) hb3.size
  obtain ⟨k1, rfl, -, -, p0, p1, p2, p3, p4, p5, p6, p7, p8, p9, p10, p11⟩ := rows_two (X2.out.keep hb3)
  obtain ⟨k2, rfl, -, -, q0, q1, q2, q3, q4, q5⟩ := rows_one (Y2.out.keep hb3)
  obtain ⟨k3, rfl, -, -, t0, t1, t2, t3, t4, t5⟩ := rows_one x3
  have HA3 := Lib.hid A3
  have E3 := Lib.hid (HE.out.below hw3.out)
  clear c0 c1 c2 c3 c4 c5 c6 c7 HA2 hb3 x3 hw2 z2 X2 Y2
  obtain ⟨c0, c1, c2, c3, c4, c5, c6, c7⟩ := A3
  go_wp2_with fail
  refine (r4 _ E3.out).mono ?_
  rintro e w4 ⟨rfl, hb4⟩
  have A4 := HA3.out.keep hb4 z3
  have hw4 := Lib.hid (hw3.out.trans (hb4.mono hw3.out.size))
  have z4 : w.heap.size < w4.heap.size := Nat.lt_of_lt_of_le z3 hb4.size
  clear p0 p1 p2 p3 p4 p5 p6 p7 p8 p9 p10 p11 q0 q1 q2 q3 q4 q5 t0 t1 t2 t3 t4 t5 c0 c1 c2 c3 c4 c5 c6 c7 HA3 hb4 hw3 z3
  have HA4 := Lib.hid A4
  obtain ⟨c0, c1, c2, c3, c4, c5, c6, c7⟩ := A4
  go_wp2_with fail
  refine (r5 _).mono ?_
  rintro e w5 ⟨rfl, hb5⟩
  have A5 := HA4.out.keep hb5 z4
  have hw5 := Lib.hid (hw4.out.trans (hb5.mono hw4.out.size))
  clear c0 c1 c2 c3 c4 c5 c6 c7 HA4 hb5 hw4 z4
  obtain ⟨c0, c1, c2, c3, c4, c5, c6, c7⟩ := A5
  go_wp2_with fail
  refine (r6 _).mono ?_
  rintro e w6 ⟨rfl, hb6⟩
  go_wp2
  go_ret
  exact ⟨rfl, hw5.out.trans (hb6.mono hw5.out.size)⟩
end Go.Proofs.YtnnafjmfbnnnjaaDoor
