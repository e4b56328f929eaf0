/-
  The law IntegritySensors.
-/
import Derived.Test.YtplgdlooglnpmaaGreatSX7
import Derived.Test.YtplgdlooglnpmaaGreatSenPlainM
namespace Go.Proofs.YtplgdlooglnpmaaGreat.integritySensors
set_option linter.unusedVariables false
open Go.ChangeShapes Go.WideShapes Go.ChangeAt Go.RowKit

structure SenI (cx cy bx b2 px py f : Int) (ms : List Ms) : Prop where
  src : ∀ m ∈ ms, 1 ≤ m.s
  ok : inN cx cy bx b2 px py = true → ∀ m ∈ ms, m.s ≠ f → HoldP m px py
theorem sen_keep {cx cy bx b2 px py f : Int} {ms : List Ms} {r : Rp} (h : SenI cx cy bx b2 px py f ms) (h0 : (rowsN r cx cy bx b2).2 = 0) (ha : agN r px py = true) : SenI cx cy bx b2 px py f (ms ++ (rowsN r cx cy bx b2).1) := by
  obtain ⟨h1, h2⟩ := h
  obtain ⟨s0, s1⟩ := rowsN_src h0
  refine ⟨fun m hm => ?_, fun hi m hm hs => ?_⟩
  · rcases List.mem_append.1 hm with a | a
    · exact h1 m a
    · rw [s1 m a]; exact s0
  · rcases List.mem_append.1 hm with a | a
    · exact h2 hi m a hs
    · exact rowsN_cert h0 ha hi m a
theorem sen_turn {cx cy bx b2 px py f : Int} {ms : List Ms} {r : Rp} (h : SenI cx cy bx b2 px py f ms) (h0 : (rowsN r cx cy bx b2).2 = 0) (hf : f = 0 ∨ f = r.s) : SenI cx cy bx b2 px py r.s (ms ++ (rowsN r cx cy bx b2).1) := by
  obtain ⟨h1, h2⟩ := h
  obtain ⟨s0, s1⟩ := rowsN_src h0
  refine ⟨fun m hm => ?_, fun hi m hm hs => ?_⟩
  · rcases List.mem_append.1 hm with a | a
    · exact h1 m a
    · rw [s1 m a]; exact s0
  · rcases List.mem_append.1 hm with a | a
    · refine h2 hi m a ?_
      rcases hf with e | e
      · have := h1 m a; omega
      · rw [e]; exact hs
    · exact absurd (s1 m a) hs
structure BoxOk (cx cy bx bY x y : Int) : Prop where
  i0 : x - cx ≤ bx
  i1 : cx - x ≤ bx
  i2 : y - cy ≤ bY
  i3 : cy - y ≤ bY
  p0 : -2000000 ≤ x ∧ x ≤ 2000000
  p1 : -2000000 ≤ y ∧ y ≤ 2000000
  p2 : -2000000 ≤ cx ∧ cx ≤ 2000000
  p3 : -2000000 ≤ cy ∧ cy ≤ 2000000
theorem sen_box {cx cy bx b2 px py f : Int} {ms : List Ms} (hz : (levF ms).2 = 0) (h : SenI cx cy bx b2 px py f ms) (hi : inN cx cy bx b2 px py = true) (hv : vldP px py = true) : BoxOk (levF ms).1.cx (levF ms).1.cy (levF ms).1.x (levF ms).1.y px py := by
  have lo := lev_ok hz
  obtain ⟨a, b, c, d⟩ := protects (px := px) (py := py) (faulty := f) lo (h.ok hi)
  have v := vldP_iff.1 hv
  obtain ⟨_, _, hx, hy⟩ := sol_chk lo.sol
  have e := lev_val lo
  have ex : (levF ms).1.cx = cenX ms := by rw [e]
  have ey : (levF ms).1.cy = cenY ms := by rw [e]
  have px := pOk_iff.1 hx
  have py := pOk_iff.1 hy
  exact ⟨a, b, c, d, by omega, by omega, by omega, by omega⟩
theorem agN_any (r : Rp) (px py : Int) (w : World) (k0 : 0 ≤ r.k) (k1 : r.k ≤ 255) : Calls Tryz.prog 15 #[.agg #[.int .i64 r.s, .int .u8 r.k, .int .i64 r.x, .int .i64 r.y, .int .i64 r.v, .int .i64 r.b, .int .i64 r.wt, .int .i64 r.t], .agg #[.int .i64 px, .int .i64 py]] w fun e w' => e = .returned (.bool (agN r px py)) ∧ Below w.heap.size w w' := S41.agrees_any r.s r.k r.x r.y r.v r.b r.wt r.t px py w k0 k1
theorem inN_any (cx cy bx b2 px py : Int) (w : World) : Calls Tryz.prog 16 #[.agg #[.int .i64 cx, .int .i64 cy, .int .i64 bx, .int .i64 b2], .agg #[.int .i64 px, .int .i64 py]] w fun e w' => e = .returned (.bool (inN cx cy bx b2 px py)) ∧ Below w.heap.size w w' := S41.inside_any cx cy bx b2 px py w
def SenR (L : List Rp) (cx cy bx b2 px py : Int) (W : World) (v7 v8 v9 : Value) (wr : World) : Prop := ∃ (k : Nat) (ms : List Ms) (f : Int), v9 = .int .i64 k ∧ v8 = .int .i64 f ∧ k ≤ L.length ∧ Hid (ms.length ≤ 2 * k) ∧ Hid (Below W.heap.size W wr) ∧ Hid (OM W.heap.size wr v7 ms) ∧ Hid (SenI cx cy bx b2 px py f ms)
set_option maxHeartbeats 40000000 in
set_option maxRecDepth 100000 in
theorem walk (v : Value) (L : List Rp) (cx cy bx b2 px py : Int) (w : World) (h : RlAt L v w) (hK : ∀ i, i < L.length → 0 ≤ (nthR L i).k ∧ (nthR L i).k ≤ 255) :
    Calls Tryz.prog 5 #[v, .agg #[.int .i64 cx, .int .i64 cy, .int .i64 bx, .int .i64 b2], .agg #[.int .i64 px, .int .i64 py]] w fun e w' => e = .returned (.bool true) ∧ Below w.heap.size w w' := by
  have KK := Lib.hid hK
  clear hK
  obtain ⟨p, cap, rfl⟩ := rl_form h
  have H0 := Lib.hid h
  have KC := Lib.hid ((Blk.of (vs := #[.int .i64 cx, .int .i64 cy, .int .i64 bx, .int .i64 b2]) (t := 28) (w := w) (b := w.heap.size) (by simp)).alloc (.cells #[.int .i64 px, .int .i64 py] 26))
  have KP := Lib.hid (Blk.of (vs := #[.int .i64 px, .int .i64 py]) (t := 26) (w := (w.alloc (.cells #[.int .i64 cx, .int .i64 cy, .int .i64 bx, .int .i64 b2] 28))) (b := w.heap.size + 1) (by simp))
  have HB := Lib.hid (((Below.refl w.heap.size w).alloc (by simp; try omega) (.cells #[.int .i64 cx, .int .i64 cy, .int .i64 bx, .int .i64 b2] 28)).alloc (by simp; try omega) (.cells #[.int .i64 px, .int .i64 py] 26))
  go_enter Tryz.func5, Tryz.ntmps5
  clear h
  go_wp2_with fail
  generalize (w.alloc (.cells #[.int .i64 cx, .int .i64 cy, .int .i64 bx, .int .i64 b2] 28)).alloc (.cells #[.int .i64 px, .int .i64 py] 26) = w0 at *
  refine (awake_any _).mono ?_
  rintro e1 w1 ⟨rfl, hb1⟩
  replace HB := Lib.hid (HB.out.trans (hb1.mono HB.out.size))
  replace KC := Lib.hid (KC.out.below hb1)
  replace KP := Lib.hid (KP.out.below hb1)
  clear hb1
  have KC1 := KC
  have KP1 := KP
  have HB1 := HB
  have hC1 := KC.out.lt
  have hP1 := KP.out.lt
  have h11 := HB.out.size
  go_wp2
  go_loopw [7, 8, 9] (SenR L cx cy bx b2 px py w1) (fun _ _ i _ => L.length - (intOf i).toNat)
  case atStart => exact ⟨0, [], 0, rfl, rfl, Nat.zero_le _, Lib.hid (by simp), Lib.hid ((Below.refl _ _).alloc (Nat.le_refl _) _), Lib.hid (World.ownsRow_lit w1 #[] 0 (Nat.le_refl _) (by decide) rfl), Lib.hid ⟨fun m hm => absurd hm (by simp), fun _ m hm => absurd hm (by simp)⟩⟩
  case round =>
    clear KC KP HB
    obtain ⟨k, ms, f, rfl, rfl, hk, HL, HBR, HO, HI⟩ := hrel
    have KC := Lib.hid (blk_keep KC1.out HBR.out hC1)
    have KP := Lib.hid (blk_keep KP1.out HBR.out hP1)
    have HB := Lib.hid (HB1.out.trans (HBR.out.mono h11))
    by_cases q : k < L.length
    · by_cases q8 : k < 8
      · have q' : decide (k < L.length) = true := by simpa using q
        have q8' : decide (k < 8) = true := by simpa using q8
        have q9 : decide ((k : Int) < 8) = true := by simp; omega
        obtain ⟨b, o, rfl, hcap, hmax, RA⟩ := rl_at (H0.out.below HB.out) q
        have HR := Lib.hid RA
        have c0 := RA.c0 k q
        have c1 := RA.c1 k q
        have c2 := RA.c2 k q
        have c3 := RA.c3 k q
        have c4 := RA.c4 k q
        have c5 := RA.c5 k q
        have c6 := RA.c6 k q
        have c7 := RA.c7 k q
        have clt := RA.lt
        clear RA
        have hkk := KK.out k q
        obtain ⟨rr, hrr⟩ : ∃ z, nthR L k = z := ⟨_, rfl⟩
        rw [hrr] at c0 c1 c2 c3 c4 c5 c6 c7 hkk
        have HRR := Lib.hid hrr
        clear hrr
        have RW := Lib.hid fun w => rowsN_any rr cx cy bx b2 w hkk.1 hkk.2
        have AG := Lib.hid fun w => agN_any rr px py w hkk.1 hkk.2
        have SK := Lib.hid fun h0 ha => sen_keep (r := rr) HI.out h0 ha
        have ST := Lib.hid fun h0 hf => sen_turn (r := rr) HI.out h0 hf
        have LN := Lib.hid (rowsN_len rr cx cy bx b2)
        have RB := Lib.hid (rowsN_bad (r := rr) (cx := cx) (cy := cy) (bx := bx) (b2 := b2))
        have RG := Lib.hid (rowsN_good (r := rr) (cx := cx) (cy := cy) (bx := bx) (b2 := b2))
        obtain ⟨R, hR⟩ : ∃ z, rowsN rr cx cy bx b2 = z := ⟨_, rfl⟩
        rw [hR] at RW SK ST LN RB RG
        clear hR hkk
        obtain ⟨pl, en⟩ := R
        simp only at RW SK ST LN RB RG
        generalize agN rr px py = ga at *
        go_wp2_with fail
        have gr0 := fun d os => cell_regrown c0 d os
        have gr1 := fun d os => cell_regrown c1 d os
        have gr2 := fun d os => cell_regrown c2 d os
        have gr3 := fun d os => cell_regrown c3 d os
        have gr4 := fun d os => cell_regrown c4 d os
        have gr5 := fun d os => cell_regrown c5 d os
        have gr6 := fun d os => cell_regrown c6 d os
        have gr7 := fun d os => cell_regrown c7 d os
        have gC_0 := fun d os => cell_regrown (KC.out.c 0 _ rfl) d os
        have gC_1 := fun d os => cell_regrown (KC.out.c 1 _ rfl) d os
        have gC_2 := fun d os => cell_regrown (KC.out.c 2 _ rfl) d os
        have gC_3 := fun d os => cell_regrown (KC.out.c 3 _ rfl) d os
        clear c0 c1 c2 c3 c4 c5 c6 c7 clt
        refine wp_region_below_three 5 1 (by kernel_rfl) (by kernel_rfl) ?_
        simp only [List.take_succ_cons, List.take_zero, List.drop_succ_cons, List.drop_zero]
        repeat (quiet_step (fail))
        refine wpQuiet_nil ?_
        intro w21 hw21
        have hb21 : Below wr.heap.size wr w21 := by
          obtain ⟨⟨dq, osq⟩, hw2⟩ := hw21
          rw [hw2]; exact below_regrown _ dq osq
        clear gr0 gr1 gr2 gr3 gr4 gr5 gr6 gr7 gC_0 gC_1 gC_2 gC_3 hw21
        replace HB := Lib.hid (HB.out.trans (hb21.mono HB.out.size))
        replace KC := Lib.hid (KC.out.below hb21)
        replace KP := Lib.hid (KP.out.below hb21)
        replace HO := Lib.hid (HO.out.below hb21)
        replace HR := Lib.hid (HR.out.below hb21)
        replace HBR := Lib.hid (HBR.out.trans (hb21.mono (Nat.le_trans (Nat.le_refl w1.heap.size) HBR.out.size)))
        clear hb21
        go_wp2_with fail
        refine (RW.out _).mono ?_
        rintro e22 w22 ⟨ur, rfl, hrn, hb22⟩
        replace HB := Lib.hid (HB.out.trans (hb22.mono HB.out.size))
        replace KC := Lib.hid (KC.out.below hb22)
        replace KP := Lib.hid (KP.out.below hb22)
        replace HO := Lib.hid (HO.out.below hb22)
        replace HR := Lib.hid (HR.out.below hb22)
        replace HBR := Lib.hid (HBR.out.trans (hb22.mono (Nat.le_trans (Nat.le_refl w1.heap.size) HBR.out.size)))
        clear hb22
        go_wp2_with fail
        refine ThenQuiet.mk ?_
        repeat (quiet_step (fail))
        refine wpQuiet_nil ?_
        by_cases he : en = 0
        · subst he
          have hne := RG.out rfl
          obtain ⟨kk, hur, hk2⟩ : ∃ kk : Nat, ur = .slice (some ⟨kk, 0, none⟩) pl.length pl.length ∧ w22.heap[kk]? = some (.cells (msC pl).toArray 70) := by
            rcases hrn with ⟨e, _⟩ | ⟨kk, _, e, _, h2⟩
            · exact absurd e hne
            · exact ⟨kk, e, h2⟩
          subst hur
          clear hrn RW RB RG
          have HK2 := Lib.hid hk2
          clear hk2
          have OL := Lib.hid (World.ownsRow.lt HO.out)
          go_wp2_with (at_builtin; refine Halt.mk ?_)
          unfold Halt
          refine wpList_oml rfl (.tmp 38) (.tmp 39) rfl w1.heap.size u7 ms rfl w22 HO.out kk pl rfl HK2.out (by have := HL.out; have := LN.out; omega) HBR.out.size ?_
          intro u2 w5 ho5 hg5 hat5
          clear hat5 HK2
          have HBR5 := Lib.hid (below_grown HBR.out hg5 HBR.out.size fun k hk => (OL.out k hk).1)
          have HB5 := Lib.hid (below_grown HB.out hg5 HB.out.size fun k hk => Nat.le_trans h11 (OL.out k hk).1)
          clear hg5
          have HO5 := Lib.hid ho5
          obtain ⟨g5, cap5, hu2⟩ := Go.Joins.ownsRow_form ho5 (show 0 < (ms ++ pl).length by rw [List.length_append]; have := List.length_pos_iff.2 hne; omega)
          obtain ⟨N5, hN5⟩ : ∃ N, (ms ++ pl).length = N := ⟨_, rfl⟩
          have HL5 : Hid (N5 ≤ 2 * (k + 1)) := Lib.hid (by rw [← hN5, List.length_append]; have := HL.out; have := LN.out; omega)
          have HN5 := Lib.hid hN5
          rw [hN5] at hu2
          clear ho5 hN5
          subst hu2
          clear HO OL hne LN HL
          replace HBR := HBR5
          replace HB := HB5
          replace HR := Lib.hid (show RpAt L b o w5 from by obtain ⟨b', o', e, _, _, ra⟩ := rl_at (H0.out.below HB.out) q; injection e with e; injection e with e1 e2; subst e1 e2; exact ra)
          clear HBR5 HB5
          replace KC := Lib.hid (blk_keep KC1.out HBR.out hC1)
          replace KP := Lib.hid (blk_keep KP1.out HBR.out hP1)
          go_wp2_with fail
          have c0 := HR.out.c0 k q
          rw [HRR.out] at c0
          have gr0 := fun d os => cell_regrown c0 d os
          clear c0
          have c1 := HR.out.c1 k q
          rw [HRR.out] at c1
          have gr1 := fun d os => cell_regrown c1 d os
          clear c1
          have c2 := HR.out.c2 k q
          rw [HRR.out] at c2
          have gr2 := fun d os => cell_regrown c2 d os
          clear c2
          have c3 := HR.out.c3 k q
          rw [HRR.out] at c3
          have gr3 := fun d os => cell_regrown c3 d os
          clear c3
          have c4 := HR.out.c4 k q
          rw [HRR.out] at c4
          have gr4 := fun d os => cell_regrown c4 d os
          clear c4
          have c5 := HR.out.c5 k q
          rw [HRR.out] at c5
          have gr5 := fun d os => cell_regrown c5 d os
          clear c5
          have c6 := HR.out.c6 k q
          rw [HRR.out] at c6
          have gr6 := fun d os => cell_regrown c6 d os
          clear c6
          have c7 := HR.out.c7 k q
          rw [HRR.out] at c7
          have gr7 := fun d os => cell_regrown c7 d os
          clear c7
          have gP_0 := fun d os => cell_regrown (KP.out.c 0 _ rfl) d os
          have gP_1 := fun d os => cell_regrown (KP.out.c 1 _ rfl) d os
          have rv0 := Lib.hid (fun d os => Calls.regrown_of (AG.out (Go.Sort.grow (redrawn w5 d) os)))
          refine wp_region_quiet_below (by kernel_rfl) (by kernel_rfl) ?_
          repeat (quiet_step (first | with_reducible exact rv0.out _ _))
          refine wpQuiet_nil ?_
          intro w6 hw6
          have hb6 : Below w5.heap.size w5 w6 := by
            obtain ⟨⟨dq, osq⟩, hw2⟩ := hw6
            rw [hw2]; exact below_regrown _ dq osq
          clear gP_0 gP_1 rv0 hw6
          replace HB := Lib.hid (HB.out.trans (hb6.mono HB.out.size))
          replace KC := Lib.hid (KC.out.below hb6)
          replace KP := Lib.hid (KP.out.below hb6)
          replace HO5 := Lib.hid (HO5.out.below hb6)
          replace HR := Lib.hid (HR.out.below hb6)
          replace HBR := Lib.hid (HBR.out.trans (hb6.mono (Nat.le_trans (Nat.le_refl w1.heap.size) HBR.out.size)))
          clear hb6
          clear gr0 gr1 gr2 gr3 gr4 gr5 gr6 gr7
          clear AG
          have c0 := HR.out.c0 k q
          rw [HRR.out] at c0
          have clt := HR.out.lt
          cases ga with
          | true =>
            have SK2 := Lib.hid (SK.out (by first | rfl | trivial) (by first | rfl | trivial))
            clear SK ST
            go_wp2
            exact ⟨⟨k + 1, ms ++ pl, f, by go_num, rfl, by omega, Lib.hid (by rw [HN5.out]; exact HL5.out), HBR, HO5, SK2⟩, by simp [intOf]; omega⟩
          | false =>
            by_cases hf : f = 0
            · have g0 : (f != 0) = false := by simpa using hf
              have ST2 := Lib.hid (ST.out (by first | rfl | trivial) (.inl hf))
              clear SK ST
              clear hf
              go_wp2
              exact ⟨⟨k + 1, ms ++ pl, rr.s, by go_num, rfl, by omega, Lib.hid (by rw [HN5.out]; exact HL5.out), HBR, HO5, ST2⟩, by simp [intOf]; omega⟩
            · have g0 : (f != 0) = true := by simpa using hf
              by_cases hs : f = rr.s
              · have g1 : (f != rr.s) = false := by simpa using hs
                have ST2 := Lib.hid (ST.out (by first | rfl | trivial) (.inr hs))
                clear SK ST
                clear hf hs
                go_wp2
                exact ⟨⟨k + 1, ms ++ pl, rr.s, by go_num, rfl, by omega, Lib.hid (by rw [HN5.out]; exact HL5.out), HBR, HO5, ST2⟩, by simp [intOf]; omega⟩
              · have g1 : (f != rr.s) = true := by simpa using hs
                clear hf hs SK ST
                go_wp2
                go_ret
                exact ⟨rfl, HB.out⟩
        · have g : (en != 0) = true := by simpa using he
          clear hrn he RW AG SK ST LN RB RG
          go_wp2
          exact ⟨⟨k + 1, ms, f, by go_num, rfl, by omega, Lib.hid (by have := HL.out; omega), HBR, HO, HI⟩, by simp [intOf]; omega⟩
      · have q' : decide (k < L.length) = true := by simpa using q
        have q8' : decide (k < 8) = false := by simpa using q8
        have q9 : decide ((k : Int) < 8) = false := by simp; omega
        have LV := Lib.hid fun w h => lev_any ms u7 w h
        have IB := Lib.hid fun hz hi hv => sen_box hz HI.out hi hv
        have IN := Lib.hid fun w => inN_any cx cy bx b2 px py w
        have VP := Lib.hid fun w => vldP_any px py w
        obtain ⟨R, hR⟩ : ∃ z, levF ms = z := ⟨_, rfl⟩
        rw [hR] at LV IB
        clear hR
        obtain ⟨⟨ex, ey, fx, fy⟩, z⟩ := R
        unfold boxV at LV
        simp only at LV IB
        go_wp2_with fail
        refine (LV.out _ HO.out.lst).mono ?_
        rintro e41 w41 ⟨rfl, hb41⟩
        replace HB := Lib.hid (HB.out.trans (hb41.mono HB.out.size))
        replace KC := Lib.hid (KC.out.below hb41)
        replace KP := Lib.hid (KP.out.below hb41)
        replace HO := Lib.hid (HO.out.below hb41)
        replace HBR := Lib.hid (HBR.out.trans (hb41.mono (Nat.le_trans (Nat.le_refl w1.heap.size) HBR.out.size)))
        clear hb41
        clear LV
        by_cases hz : z = 0
        · subst hz
          generalize inN cx cy bx b2 px py = gi at *
          have yC := KC.out
          have yC_0 := yC.c 0 _ rfl
          have yC_1 := yC.c 1 _ rfl
          have yC_2 := yC.c 2 _ rfl
          have yC_3 := yC.c 3 _ rfl
          have yC_z := yC.lt
          clear yC
          have yP := KP.out
          have yP_0 := yP.c 0 _ rfl
          have yP_1 := yP.c 1 _ rfl
          have yP_z := yP.lt
          clear yP
          go_wp2_with fail
          have KB := Lib.hid (Blk.of (vs := #[.int .i64 ex, .int .i64 ey, .int .i64 fx, .int .i64 fy]) (t := 28) (w := w41) (b := w41.heap.size) rfl)
          have hb42 : Below w41.heap.size w41 (w41.alloc (.cells #[.int .i64 ex, .int .i64 ey, .int .i64 fx, .int .i64 fy] 28)) := (Below.refl _ _).alloc (Nat.le_refl _) _
          have hnB := HB.out.size
          have nzB_C := KC.out.lt
          have nzB_P := KP.out.lt
          replace HB := Lib.hid (HB.out.trans (hb42.mono HB.out.size))
          replace KC := Lib.hid (KC.out.below hb42)
          replace KP := Lib.hid (KP.out.below hb42)
          replace HO := Lib.hid (HO.out.below hb42)
          replace HBR := Lib.hid (HBR.out.trans (hb42.mono (Nat.le_trans (Nat.le_refl w1.heap.size) HBR.out.size)))
          clear yC_0 yC_1 yC_2 yC_3 yC_z yP_0 yP_1 yP_z
          clear hb42
          generalize w41.alloc (.cells #[.int .i64 ex, .int .i64 ey, .int .i64 fx, .int .i64 fy] 28) = w42 at *
          generalize w41.heap.size = bB at *
          have neB_C : bB ≠ w.heap.size := by omega
          have neB_P : bB ≠ (w.heap.size + 1) := by omega
          clear nzB_C nzB_P
          refine (IN.out _).mono ?_
          rintro e43 w43 ⟨rfl, hb43⟩
          replace HB := Lib.hid (HB.out.trans (hb43.mono HB.out.size))
          replace KC := Lib.hid (KC.out.below hb43)
          replace KP := Lib.hid (KP.out.below hb43)
          replace KB := Lib.hid (KB.out.below hb43)
          replace HO := Lib.hid (HO.out.below hb43)
          replace HBR := Lib.hid (HBR.out.trans (hb43.mono (Nat.le_trans (Nat.le_refl w1.heap.size) HBR.out.size)))
          clear hb43
          cases gi with
          | false =>
            go_wp2
            go_ret
            exact ⟨rfl, HB.out⟩
          | true =>
            have yP := KP.out
            have yP_0 := yP.c 0 _ rfl
            have yP_1 := yP.c 1 _ rfl
            have yP_z := yP.lt
            clear yP
            go_wp2_with fail
            refine (VP.out _).mono ?_
            rintro e44 w44 ⟨rfl, hb44⟩
            replace HB := Lib.hid (HB.out.trans (hb44.mono HB.out.size))
            replace KC := Lib.hid (KC.out.below hb44)
            replace KP := Lib.hid (KP.out.below hb44)
            replace KB := Lib.hid (KB.out.below hb44)
            replace HO := Lib.hid (HO.out.below hb44)
            replace HBR := Lib.hid (HBR.out.trans (hb44.mono (Nat.le_trans (Nat.le_refl w1.heap.size) HBR.out.size)))
            clear yP_0 yP_1 yP_z
            clear hb44
            cases hv : vldP px py with
            | false =>
              clear hv
              go_wp2
              go_ret
              exact ⟨rfl, HB.out⟩
            | true =>
              obtain ⟨i0, i1, i2, i3, p0, p1, p2, p3⟩ := IB.out (by first | rfl | trivial) (by first | rfl | trivial) hv
              clear hv
              have s0 : IntKind.i64.wrap (px - ex) = px - ex := IntWalk.i64_in _ (by omega)
              have s1 : IntKind.i64.wrap (ex - px) = ex - px := IntWalk.i64_in _ (by omega)
              have s2 : IntKind.i64.wrap (py - ey) = py - ey := IntWalk.i64_in _ (by omega)
              have s3 : IntKind.i64.wrap (ey - py) = ey - py := IntWalk.i64_in _ (by omega)
              have g0 : decide (px - ex ≤ fx) = true := decide_eq_true i0
              have g1 : decide (ex - px ≤ fx) = true := decide_eq_true i1
              have g2 : decide (py - ey ≤ fy) = true := decide_eq_true i2
              have g3 : decide (ey - py ≤ fy) = true := decide_eq_true i3
              clear i0 i1 i2 i3 p0 p1 p2 p3
              have yP := KP.out
              have yP_0 := yP.c 0 _ rfl
              have yP_1 := yP.c 1 _ rfl
              have yP_z := yP.lt
              clear yP
              have yB := KB.out
              have yB_0 := yB.c 0 _ rfl
              have yB_1 := yB.c 1 _ rfl
              have yB_2 := yB.c 2 _ rfl
              have yB_3 := yB.c 3 _ rfl
              have yB_z := yB.lt
              clear yB
              go_wp2
              go_ret
              exact ⟨rfl, HB.out⟩
        · have g : (z != 0) = true := by simpa using hz
          clear hz IB IN VP
          go_wp2
          go_ret
          exact ⟨rfl, HB.out.alloc HB.out.size _⟩
    · have q' : decide (k < L.length) = false := by simpa using q
      have LV := Lib.hid fun w h => lev_any ms u7 w h
      have IB := Lib.hid fun hz hi hv => sen_box hz HI.out hi hv
      have IN := Lib.hid fun w => inN_any cx cy bx b2 px py w
      have VP := Lib.hid fun w => vldP_any px py w
      obtain ⟨R, hR⟩ : ∃ z, levF ms = z := ⟨_, rfl⟩
      rw [hR] at LV IB
      clear hR
      obtain ⟨⟨ex, ey, fx, fy⟩, z⟩ := R
      unfold boxV at LV
      simp only at LV IB
      go_wp2_with fail
      refine (LV.out _ HO.out.lst).mono ?_
      rintro e41 w41 ⟨rfl, hb41⟩
      replace HB := Lib.hid (HB.out.trans (hb41.mono HB.out.size))
      replace KC := Lib.hid (KC.out.below hb41)
      replace KP := Lib.hid (KP.out.below hb41)
      replace HO := Lib.hid (HO.out.below hb41)
      replace HBR := Lib.hid (HBR.out.trans (hb41.mono (Nat.le_trans (Nat.le_refl w1.heap.size) HBR.out.size)))
      clear hb41
      clear LV
      by_cases hz : z = 0
      · subst hz
        generalize inN cx cy bx b2 px py = gi at *
        have yC := KC.out
        have yC_0 := yC.c 0 _ rfl
        have yC_1 := yC.c 1 _ rfl
        have yC_2 := yC.c 2 _ rfl
        have yC_3 := yC.c 3 _ rfl
        have yC_z := yC.lt
        clear yC
        have yP := KP.out
        have yP_0 := yP.c 0 _ rfl
        have yP_1 := yP.c 1 _ rfl
        have yP_z := yP.lt
        clear yP
        go_wp2_with fail
        have KB := Lib.hid (Blk.of (vs := #[.int .i64 ex, .int .i64 ey, .int .i64 fx, .int .i64 fy]) (t := 28) (w := w41) (b := w41.heap.size) rfl)
        have hb42 : Below w41.heap.size w41 (w41.alloc (.cells #[.int .i64 ex, .int .i64 ey, .int .i64 fx, .int .i64 fy] 28)) := (Below.refl _ _).alloc (Nat.le_refl _) _
        have hnB := HB.out.size
        have nzB_C := KC.out.lt
        have nzB_P := KP.out.lt
        replace HB := Lib.hid (HB.out.trans (hb42.mono HB.out.size))
        replace KC := Lib.hid (KC.out.below hb42)
        replace KP := Lib.hid (KP.out.below hb42)
        replace HO := Lib.hid (HO.out.below hb42)
        replace HBR := Lib.hid (HBR.out.trans (hb42.mono (Nat.le_trans (Nat.le_refl w1.heap.size) HBR.out.size)))
        clear yC_0 yC_1 yC_2 yC_3 yC_z yP_0 yP_1 yP_z
        clear hb42
        generalize w41.alloc (.cells #[.int .i64 ex, .int .i64 ey, .int .i64 fx, .int .i64 fy] 28) = w42 at *
        generalize w41.heap.size = bB at *
        have neB_C : bB ≠ w.heap.size := by omega
        have neB_P : bB ≠ (w.heap.size + 1) := by omega
        clear nzB_C nzB_P
        refine (IN.out _).mono ?_
        rintro e43 w43 ⟨rfl, hb43⟩
        replace HB := Lib.hid (HB.out.trans (hb43.mono HB.out.size))
        replace KC := Lib.hid (KC.out.below hb43)
        replace KP := Lib.hid (KP.out.below hb43)
        replace KB := Lib.hid (KB.out.below hb43)
        replace HO := Lib.hid (HO.out.below hb43)
        replace HBR := Lib.hid (HBR.out.trans (hb43.mono (Nat.le_trans (Nat.le_refl w1.heap.size) HBR.out.size)))
        clear hb43
        cases gi with
        | false =>
          go_wp2
          go_ret
          exact ⟨rfl, HB.out⟩
        | true =>
          have yP := KP.out
          have yP_0 := yP.c 0 _ rfl
          have yP_1 := yP.c 1 _ rfl
          have yP_z := yP.lt
          clear yP
          go_wp2_with fail
          refine (VP.out _).mono ?_
          rintro e44 w44 ⟨rfl, hb44⟩
          replace HB := Lib.hid (HB.out.trans (hb44.mono HB.out.size))
          replace KC := Lib.hid (KC.out.below hb44)
          replace KP := Lib.hid (KP.out.below hb44)
          replace KB := Lib.hid (KB.out.below hb44)
          replace HO := Lib.hid (HO.out.below hb44)
          replace HBR := Lib.hid (HBR.out.trans (hb44.mono (Nat.le_trans (Nat.le_refl w1.heap.size) HBR.out.size)))
          clear yP_0 yP_1 yP_z
          clear hb44
          cases hv : vldP px py with
          | false =>
            clear hv
            go_wp2
            go_ret
            exact ⟨rfl, HB.out⟩
          | true =>
            obtain ⟨i0, i1, i2, i3, p0, p1, p2, p3⟩ := IB.out (by first | rfl | trivial) (by first | rfl | trivial) hv
            clear hv
            have s0 : IntKind.i64.wrap (px - ex) = px - ex := IntWalk.i64_in _ (by omega)
            have s1 : IntKind.i64.wrap (ex - px) = ex - px := IntWalk.i64_in _ (by omega)
            have s2 : IntKind.i64.wrap (py - ey) = py - ey := IntWalk.i64_in _ (by omega)
            have s3 : IntKind.i64.wrap (ey - py) = ey - py := IntWalk.i64_in _ (by omega)
            have g0 : decide (px - ex ≤ fx) = true := decide_eq_true i0
            have g1 : decide (ex - px ≤ fx) = true := decide_eq_true i1
            have g2 : decide (py - ey ≤ fy) = true := decide_eq_true i2
            have g3 : decide (ey - py ≤ fy) = true := decide_eq_true i3
            clear i0 i1 i2 i3 p0 p1 p2 p3
            have yP := KP.out
            have yP_0 := yP.c 0 _ rfl
            have yP_1 := yP.c 1 _ rfl
            have yP_z := yP.lt
            clear yP
            have yB := KB.out
            have yB_0 := yB.c 0 _ rfl
            have yB_1 := yB.c 1 _ rfl
            have yB_2 := yB.c 2 _ rfl
            have yB_3 := yB.c 3 _ rfl
            have yB_z := yB.lt
            clear yB
            go_wp2
            go_ret
            exact ⟨rfl, HB.out⟩
      · have g : (z != 0) = true := by simpa using hz
        clear hz IB IN VP
        go_wp2
        go_ret
        exact ⟨rfl, HB.out.alloc HB.out.size _⟩

/-! ### the row's step -/
set_option maxRecDepth 100000 in
theorem contract (H : Type) (enc : TypeId × Value → H) (W : World) (base : Nat) (args : Array Value) (ds gs : List (DataW H)) (before : List MemPlace)
    (hval : ∀ (j : Nat) t v, Tryz.f5.params[j]? = some t → args[j]? = some v → Value.okWide Tryz.prog W .any base t v)
    (hW : DataW.Whole enc Tryz.prog Tryz.f5.params.toList Rows.integritySensorsSpec.vars false W args.toList ds gs before) :
    Calls Tryz.prog 5 args W fun e W' => ∃ v, e = .returned v ∧ Rows.integritySensorsSpec.post enc Tryz.prog Tryz.f5 false true false false W args v W' := by
  have hW' := hW
  obtain ⟨p, q, hA0, hV, rfl, hfz, hnd⟩ := hW
  have hA : DataW.TrodAll enc Tryz.prog W 0 (fun _ => true) true Tryz.f5.params.toList args.toList ds p := hA0
  rw [Tryz.params5] at hA hval
  obtain ⟨v0, vs0, d0, ds0, p0, q0, hargs, rfl, rfl, h0, r0⟩ := trodAll_cons hA
  obtain ⟨v1, vs1, d1, ds1, p1, q1, rfl, rfl, rfl, h1, r1⟩ := trodAll_cons r0
  obtain ⟨v2, vs2, d2, ds2, p2, q2, rfl, rfl, rfl, h2, r2⟩ := trodAll_cons r1
  obtain ⟨rfl, rfl, rfl⟩ := trodAll_nil r2
  obtain rfl : args = #[v0, v1, v2] := by cases args; simp_all
  obtain ⟨rfl, rfl⟩ := trodVars_none hV
  have h0k := h0
  obtain ⟨l0, g0, k0⟩ := open_reports (hval 0 35 v0 rfl rfl) h0
  obtain ⟨x1_0, x1_1, x1_2, x1_3, rfl, rfl, rfl, w1_0, w1_1, w1_2, w1_3⟩ := open_box (hval 1 28 v1 rfl rfl) h1
  obtain ⟨x2_0, x2_1, rfl, rfl, rfl, w2_0, w2_1⟩ := open_point (hval 2 26 v2 rfl rfl) h2
  clear hA0
  simp only [List.append_nil] at hW'
  refine (walk v0 l0 x1_0 x1_1 x1_2 x1_3 x2_0 x2_1 W g0 k0  ).mono fun e W' ⟨he, hb⟩ => ?_
  subst he
  have hlt : ∀ x ∈ p0, x.block < W.heap.size := fun x hx => hW'.lt x (by simpa using hx)
  exact ⟨_, rfl, post_of_below (pa := p0) (pv := []) hW' (fun _ _ _ => trodAll_cons_mk (shut_bool Tryz.underlying4 _) trodAll_mk0)
    (fun sp hsp0 => by
      have hsp : ∀ x ∈ p0, sp x.block = true := fun x hx => hsp0 x (by simpa using hx)
      have := (trodAll_cons_mk (WideElems.Trod_stays laidOut (by kernel_rfl) (of_decide_eq_true (by kernel_rfl)) h0k (fun x hx => hb.same (hlt x hx)) (fun x hx => hsp x hx)) (trodAll_cons_mk (shut_box w1_0 w1_1 w1_2 w1_3) (trodAll_cons_mk (shut_point w2_0 w2_1) trodAll_mk0)))
      simp only [List.append_nil] at this
      exact this) (fun _ _ => rfl) (by simp)
    hb (ok_one (by kernel_rfl) rfl (okWide_bool_mk Tryz.underlying4 _))⟩

set_option maxRecDepth 100000 in
theorem lifted (os : Os) (started : os.Started) (H : Type) (enc : TypeId × Value → H) :
    ReturnsInHanded {} Tryz.checked os 5 .any (Rows.integritySensorsSpec.pre6 enc Tryz.prog Tryz.f5 Rows.integritySensorsRow.domain false) (Rows.integritySensorsSpec.post enc Tryz.prog Tryz.f5 false true false false) := by
  refine returnsInHanded_of_change (C := Tryz.checked) own started (by kernel_rfl) Tryz.func5
    (ChangeSpec.witness6 (enc := enc) (C := Tryz.checked) false ⟨#[], #[.slice none 0 0, .agg #[.int .i64 0, .int .i64 0, .int .i64 0, .int .i64 0], .agg #[.int .i64 0, .int .i64 0]], []⟩ 8 (by kernel_rfl) (by kernel_rfl) (by kernel_rfl) (by kernel_rfl)) ?_
  intro W base args ds gs before hval hW _ _
  exact contract H enc W base args ds gs before hval hW
/-- the law -/
theorem said : Rows.IntegritySensorsSaid :=
  OpenClaim.holds_of_wide 5 Tryz.f5 rfl rfl rfl rfl rfl rfl rfl ⟨rfl, rfl, rfl, rfl, rfl⟩ rfl rfl rfl rfl rfl (by kernel_rfl) Tryz.func5 (by kernel_rfl)
    (of_decide_eq_true (by kernel_rfl)) (by unfold Func.isWrapper; first | (rw [if_pos (by decide +kernel)]; kernel_rfl) | (rw [if_neg (by decide +kernel)]; exact ⟨rfl, rfl⟩))
    (fun os started H enc _ => lifted os started H enc)
end Go.Proofs.YtplgdlooglnpmaaGreat.integritySensors
